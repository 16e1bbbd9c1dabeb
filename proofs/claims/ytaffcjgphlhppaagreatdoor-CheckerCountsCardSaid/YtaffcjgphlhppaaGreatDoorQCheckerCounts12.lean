/-
  Part of the proof of the law CheckerCounts over this seat: the small logic, the data, the contracts of functions (no condition).
-/
import Derived.Test.YtaffcjgphlhppaaGreatDoorQCheckerCounts11
import Derived.Test.YtaffcjgphlhppaaGreatDoorQCheckerCounts7
import Derived.Test.YtaffcjgphlhppaaGreatDoorQCheckerCounts5
import Derived.Test.YtaffcjgphlhppaaGreatDoorQCheckerCounts3
import Derived.Test.YtaffcjgphlhppaaGreatDoorRows
set_option linter.unusedVariables false
set_option linter.unusedSimpArgs false
set_option linter.unusedSectionVars false
namespace Go.Proofs.YtaffcjgphlhppaaGreatDoor
open Go Go.Sx Go.Proofs
attribute [local irreducible] Code.wp wpList wpAnyH
open Go.Vs
theorem kh_ {α : Type} {l : List α} {i : Nat} {x : α} {P : α → Prop} (h : ∀ z ∈ List.take i l, P z) (hx : l[i]? = some x) (hp : P x) : ∀ z ∈ List.take (i + 1) l, P z := fun z hz => by
  rw [List.take_add_one, hx] at hz
  rcases List.mem_append.1 hz with hz | hz
  · exact h z hz
  · simp only [Option.toList_some, List.mem_singleton] at hz; subst hz; exact hp
theorem hv_ (a b : Str) : Fn0 Tryz.prog 29 #[str a, str b] (Fc.val (aE_ a b)) := by
  refine T_ Tryz.func29 rfl rfl Tryz.ntmps29 rfl fun v0 => ?_
  refine g_ (c_ (ae_ ba_ rfl fun b1 => ?_))
  refine d_ (b_ rfl (g_ (c_ (a_ (f_ rfl) rfl (a_ (f_ rfl) rfl (a_ (az_ fy_ rfl rfl) rfl (X_ 0 k_ rfl rfl rfl rfl rfl rfl (d_ (b_ rfl ?_)))))))))
  refine u_ ?_
  exact fz_ () (fun aa v h1 h2 => ck_ (us := Fc.cells (aE_ a b)) 0 Tryz.results29 R_ k_ rfl rfl rfl aa v h1 h2) C_ (fun _ _ _ => trivial)
theorem ii_ (a r b : Str) : Fn0 Tryz.prog 28 #[str a, str r, str b] (Fc.val (bq_ a r b)) := by
  refine T_ Tryz.func28 rfl rfl Tryz.ntmps28 rfl fun v0 => ?_
  refine g_ (c_ (ae_ ba_ rfl fun b1 => ?_))
  refine d_ (b_ rfl (g_ (c_ (a_ (f_ rfl) rfl (a_ (f_ rfl) rfl (a_ (f_ rfl) rfl (a_ (az_ fy_ rfl rfl) rfl (X_ 0 k_ rfl rfl rfl rfl rfl rfl (d_ ?_)))))))))
  refine b_ rfl (u_ ?_)
  exact fz_ () (fun aa v h1 h2 => ck_ (us := Fc.cells (bq_ a r b)) 0 Tryz.results28 R_ k_ rfl rfl rfl aa v h1 h2) C_ (fun _ _ _ => trivial)
theorem ml_ : gw_ Tryz.prog 36 [(0, 1), (1, 6), (7, 1), (8, 1)] [.int .i64 0, .int .i64 0, str [], str [], str [], .int .i64 0, .int .i64 0, .int .i64 0, .slice none 0 0] := ⟨_, aS_, K_, fun w => by simp [r_, k_, aZ_]⟩
theorem fN_ (k : Int) (f : Fc) (l : List Int) (fad : Option Addr) (fcap : Nat) (fs : List Fc) (gad : Option Addr) (gcap : Nat) (w : Int) (hfl : fs.length ≤ 10000000) (hfr : l.length ≤ 1000000) (hfs : ∀ x ∈ fs, x.sml) (hsf : f.sml) (hw : (if cV_ [] fs (Stp.mk k f (-1) none 0 l) = true then 0 else 120) = w) : Tri Tryz.prog 30 #[.int .i64 k, Fc.val f, .slice fad (List.length l) fcap, .slice gad (List.length fs) gcap, .int .i64 w] [] [aQ_ fad (List.flatMap cU_ l), aQ_ gad (List.flatMap Fc.cells fs), gX_] (fun _ : Unit => .bool true) (fun _ => []) (fun _ => []) := by
  refine T_ Tryz.func30 rfl rfl Tryz.ntmps30 rfl fun v0 => ?_
  refine g_ (c_ (aN_ rfl rfl fun b1 => ?_))
  refine a_ (e_ rfl) rfl (d_ (b_ rfl (g_ (c_ (a_ (f_ rfl) rfl (a_ (f_ rfl) rfl (a_ (P_ 0 R_ k_ rfl rfl rfl) rfl (a_ (f_ rfl) rfl (a_ (az_ ml_ rfl rfl) rfl ?_)))))))))
  refine Q_ (step_c [] none 0 fs gad gcap (Stp.mk k f (-1) fad fcap l) (by decide) (fun x hx => by simp at hx) hfl hfr hfs hsf) rfl C_ (fun v _ h => by exact ⟨.inl rfl, h.2.1, h.1, h.2.2.1, trivial⟩) rfl fun ⟨e1, he1⟩ => ?_
  dsimp only
  have hE1 : e1 = w := by rcases he1 with ⟨q, _⟩ | ⟨_, q⟩; exact absurd (by decide +kernel) q; exact q.trans hw
  refine a_ (f_ rfl) rfl (E_ (aB_ rfl rfl) rfl fun r1 hr1 => ?_)
  refine a_ (e_ rfl) rfl (d_ (b_ rfl (u_ ?_)))
  exact Y_ Tryz.results30 () (s_ rfl (by rw [← hr1]; simp [hE1])) C_ (fun _ _ _ => trivial)
theorem nQ_ (p : List Pc) (pad : Option Addr) (pcap : Nat) (hp : p.length ≤ 1099511627744) (hbig : ∀ x ∈ p, x.lim) : Tri Tryz.prog 10 #[.slice pad (List.length p) pcap] [] [aQ_ pad (List.flatMap Pc.cells p)] (fun b : {b : Bool // b = true → p.length ≤ 60 ∧ ∀ x ∈ p, x.sm} => .bool b.1) (fun _ => []) (fun _ => []) := by
 refine T_ Tryz.func10 rfl rfl Tryz.ntmps10 rfl fun v0 => ?_
 refine g_ (c_ (a_ (e_ rfl) rfl (d_ (b_ rfl (g_ (g_ (c_ (a_ (f_ rfl) rfl (a_ (ax_ aV_ rfl) rfl ?_)))))))))
 refine E_ (bv_ rfl rfl) rfl fun r1 hr1 => ?_
 refine d_ (b_ rfl ?_)
 cases r1
 ·
  replace hr1 := of_decide_eq_false hr1
  refine z_ rfl (J_ (b_ rfl (g_ (g_ (c_ (a_ (e_ rfl) rfl (d_ (b_ rfl (ad_ ?_)))))))))
  refine bs_ (ι := {y : Nat // y ≤ List.length p ∧ (∀ z ∈ List.take y p, z.sm)}) (fun y => [(0, .slice pad (List.length p) pcap), (2, .bool false), (3, .int .i64 (y.1 : Int))]) (fun y => ([])) (fun y => [aQ_ pad (List.flatMap Pc.cells p)]) (fun y => List.length p - y.1) ⟨(0 : Nat), by simp, by simp⟩ ⟨rfl, rfl, rfl, trivial⟩ C_ (fun _ _ h => h) ?_
  rintro ⟨i, hi_i, hall⟩
  dsimp only at hi_i hall ⊢
  refine g_ (g_ (c_ (a_ (f_ rfl) rfl (a_ (f_ rfl) rfl (a_ (ax_ aV_ rfl) rfl (E_ (au_ rfl rfl) rfl fun r2 hr2 => ?_))))))
  refine d_ (b_ rfl ?_)
  cases r2
  ·
   replace hr2 := of_decide_eq_false hr2
   refine z_ rfl (bg_ rfl (b_ rfl (g_ (c_ (a_ (e_ rfl) rfl (d_ (b_ rfl (u_ ?_))))))))
   exact Y_ Tryz.results10 ⟨true, fun _ => ⟨by omega, by rwa [List.take_of_length_le (by omega)] at hall⟩⟩ rfl C_ (fun _ _ _ => trivial)
  ·
   replace hr2 := of_decide_eq_true hr2
   have hlx1 : i < List.length p := by omega
   obtain ⟨x1, hx1⟩ : ∃ e0, p[i]? = some e0 := ⟨_, List.getElem?_eq_getElem hlx1⟩
   have hmx1 : x1 ∈ p := List.mem_of_getElem? hx1
   obtain ⟨q1, q2, q3, q4, q5, q6⟩ := hbig x1 hmx1
   refine x_ rfl (J_ (b_ rfl (g_ (ad_ (g_ ?_)))))
   refine aJ_ (by kernel_rfl) ?_
   refine M_ 0 [0, 1, 2, 3, 4, 5, 6, 7, 8, 9, 10, 11, 12, 13, 14, 15, 16, 17, 18, 19, 20, 21, 22, 23, 24, 25, 26, 27, 28, 29, 30, 31, 32, 33, 34, 35, 36, 37, 38, 39, 40, 41] (by kernel_rfl) (fun _ a b => ⟨aw_ a, b⟩) (j_ rfl (f_ rfl) rfl (j_ rfl (f_ rfl) rfl (j_ rfl (ah_ aV_ aj_ rfl rfl (fun v _ h => aM_ (n := 10) Pc.cells_len (by decide) (by exact h.1) hx1) (by omega) (by first | omega | (simp; done))) rfl (j_ rfl (bQ_ O_ rfl rfl rfl w_) rfl (j_ rfl (be_ (ad := pad) F_ rfl (fun v _ h => by exact h.1) (ak_ Pc.cells_len hx1 1 _ rfl)) rfl (j_ rfl (bH_ W_ rfl) rfl (j_ rfl (f_ rfl) rfl (j_ rfl (f_ rfl) rfl (j_ rfl (ah_ aV_ aj_ rfl rfl (fun v _ h => aM_ (n := 10) Pc.cells_len (by decide) (by exact h.1) hx1) (by omega) (by first | omega | (simp; done))) rfl ?_)))))))))
   refine j_ rfl (bQ_ O_ rfl rfl rfl w_) rfl (j_ rfl (be_ (ad := pad) F_ rfl (fun v _ h => by exact h.1) (ak_ Pc.cells_len hx1 2 _ rfl)) rfl (j_ rfl (bH_ W_ rfl) rfl (j_ rfl (ac_ rfl rfl rfl (aL_ (by omega) (by omega))) rfl (j_ rfl (f_ rfl) rfl (j_ rfl (f_ rfl) rfl (j_ rfl (ah_ aV_ aj_ rfl rfl (fun v _ h => aM_ (n := 10) Pc.cells_len (by decide) (by exact h.1) hx1) (by omega) (by first | omega | (simp; done))) rfl (j_ rfl (bQ_ O_ rfl rfl rfl w_) rfl (j_ rfl (be_ (ad := pad) F_ rfl (fun v _ h => by exact h.1) (ak_ Pc.cells_len hx1 3 _ rfl)) rfl (j_ rfl (bH_ W_ rfl) rfl ?_)))))))))
   refine j_ rfl (ac_ rfl rfl rfl (aL_ (by omega) (by omega))) rfl (j_ rfl (f_ rfl) rfl (j_ rfl (f_ rfl) rfl (j_ rfl (ah_ aV_ aj_ rfl rfl (fun v _ h => aM_ (n := 10) Pc.cells_len (by decide) (by exact h.1) hx1) (by omega) (by first | omega | (simp; done))) rfl (j_ rfl (bQ_ O_ rfl rfl rfl w_) rfl (j_ rfl (be_ (ad := pad) F_ rfl (fun v _ h => by exact h.1) (ak_ Pc.cells_len hx1 4 _ rfl)) rfl (j_ rfl (bH_ W_ rfl) rfl (j_ rfl (ac_ rfl rfl rfl (aL_ (by omega) (by omega))) rfl (j_ rfl (f_ rfl) rfl (j_ rfl (f_ rfl) rfl ?_)))))))))
   refine j_ rfl (ah_ aV_ aj_ rfl rfl (fun v _ h => aM_ (n := 10) Pc.cells_len (by decide) (by exact h.1) hx1) (by omega) (by first | omega | (simp; done))) rfl (j_ rfl (bQ_ O_ rfl rfl rfl w_) rfl (j_ rfl (be_ (ad := pad) F_ rfl (fun v _ h => by exact h.1) (ak_ Pc.cells_len hx1 5 _ rfl)) rfl (j_ rfl (bH_ W_ rfl) rfl (j_ rfl (ac_ rfl rfl rfl (aL_ (by omega) (by omega))) rfl (j_ rfl (f_ rfl) rfl (j_ rfl (f_ rfl) rfl (j_ rfl (ah_ aV_ aj_ rfl rfl (fun v _ h => aM_ (n := 10) Pc.cells_len (by decide) (by exact h.1) hx1) (by omega) (by first | omega | (simp; done))) rfl (j_ rfl (bQ_ O_ rfl rfl rfl w_) rfl (j_ rfl (be_ (ad := pad) F_ rfl (fun v _ h => by exact h.1) (ak_ Pc.cells_len hx1 6 _ rfl)) rfl ?_)))))))))
   refine j_ rfl (bH_ W_ rfl) rfl (j_ rfl (ac_ rfl rfl rfl (aL_ (by omega) (by omega))) rfl ?_)
   refine bo_ rfl (bv_ rfl rfl) rfl fun r3 hr3 => ?_
   refine L_ (S_ (by kernel_rfl) (b_ rfl ?_))
   cases r3
   ·
    replace hr3 := of_decide_eq_false hr3
    refine z_ rfl (J_ (b_ rfl (c_ (a_ (f_ rfl) rfl (a_ (ac_ rfl rfl rfl (aL_ (by omega) (by omega))) rfl (a_ (e_ rfl) rfl (d_ (q_ rfl ?_))))))))
    exact aO_ ⟨i + 1, hlx1, kh_ hall hx1 ⟨by omega, by omega, by omega, by omega, by omega, by omega⟩⟩ (by dsimp only; omega) ⟨rfl, rfl, rfl, trivial⟩ C_ (fun _ _ h => h)
   ·
    replace hr3 := of_decide_eq_true hr3
    refine x_ rfl (g_ (c_ (a_ (e_ rfl) rfl (d_ (b_ rfl (u_ ?_))))))
    exact Y_ Tryz.results10 ⟨false, fun h => by cases h⟩ rfl C_ (fun _ _ _ => trivial)
 ·
  replace hr1 := of_decide_eq_true hr1
  refine x_ rfl (g_ (c_ (a_ (e_ rfl) rfl (d_ (b_ rfl (u_ ?_))))))
  exact Y_ Tryz.results10 ⟨false, fun h => by cases h⟩ rfl C_ (fun _ _ _ => trivial)
theorem oA_ (l : List Stp) (ad : Option Addr) (cap : Nat) (hl : l.length ≤ 1256584717424) (hbig : ∀ s ∈ l, s.fact.lim) : Tri Tryz.prog 11 #[.agg #[.slice ad (List.length l) cap]] [] [aQ_ ad (List.flatMap Stp.cells l), cz_ l] (fun b : {b : Bool // b = true → l.length ≤ 60 ∧ ∀ s ∈ l, s.few} => .bool b.1) (fun _ => []) (fun _ => []) := by
 refine T_ Tryz.func11 rfl rfl Tryz.ntmps11 rfl fun v0 => ?_
 refine g_ (c_ (aN_ rfl rfl fun b1 => ?_))
 refine a_ (e_ rfl) rfl (d_ (b_ rfl (g_ (g_ (c_ (a_ (h_ aa_ rfl rfl rfl am_) rfl (a_ (m_ 0 aT_ rfl rfl rfl) rfl (a_ (ax_ ab_ rfl) rfl (E_ (bv_ rfl rfl) rfl fun r1 hr1 => ?_)))))))))
 refine d_ (b_ rfl ?_)
 cases r1
 ·
  replace hr1 := of_decide_eq_false hr1
  refine z_ rfl (J_ (b_ rfl (g_ (g_ (c_ (a_ (e_ rfl) rfl (d_ (b_ rfl (ad_ ?_)))))))))
  refine bs_ (ι := {y : Nat // y ≤ List.length l ∧ (∀ z ∈ List.take y l, Stp.few z)}) (fun y => [(1, zp_ b1 0), (2, .bool false), (3, .int .i64 (y.1 : Int))]) (fun y => ((b1, .cells #[.slice ad (List.length l) cap] 27 (0, 0)) :: [])) (fun y => [aQ_ ad (List.flatMap Stp.cells l), cz_ l]) (fun y => List.length l - y.1) ⟨(0 : Nat), by simp, by simp⟩ ⟨rfl, rfl, rfl, trivial⟩ D_ (fun _ _ h => h) ?_
  rintro ⟨i, hi_i, hall⟩
  dsimp only at hi_i hall ⊢
  refine g_ (g_ (c_ (a_ (f_ rfl) rfl (a_ (h_ aa_ rfl rfl rfl am_) rfl (a_ (m_ 0 aT_ rfl rfl rfl) rfl (a_ (ax_ ab_ rfl) rfl (E_ (au_ rfl rfl) rfl fun r2 hr2 => ?_)))))))
  refine d_ (b_ rfl ?_)
  cases r2
  ·
   replace hr2 := of_decide_eq_false hr2
   refine z_ rfl (bg_ rfl (b_ rfl (g_ (c_ (a_ (e_ rfl) rfl (d_ (b_ rfl (u_ ?_))))))))
   exact Y_ Tryz.results11 ⟨true, fun _ => ⟨by omega, by rwa [List.take_of_length_le (by omega)] at hall⟩⟩ rfl C_ (fun _ _ _ => trivial)
  ·
   replace hr2 := of_decide_eq_true hr2
   have hlx1 : i < List.length l := by omega
   obtain ⟨x1, hx1⟩ : ∃ e0, l[i]? = some e0 := ⟨_, List.getElem?_eq_getElem hlx1⟩
   have hmx1 : x1 ∈ l := List.mem_of_getElem? hx1
   obtain ⟨q1, q2, q3⟩ := hbig x1 hmx1
   refine x_ rfl (J_ (b_ rfl (g_ (ad_ (g_ (c_ (a_ (h_ aa_ rfl rfl rfl am_) rfl (a_ (m_ 0 aT_ rfl rfl rfl) rfl (a_ (f_ rfl) rfl ?_)))))))))
   refine a_ (ah_ ab_ al_ rfl rfl (fun v _ h => aM_ (n := 9) Stp.cells_len (by decide) (by exact h.1) hx1) (by omega) (by first | omega | (simp; done))) rfl (a_ (aK_ (ad := ad) (us := Stp.cells x1) bV_ al_ rfl (fun v _ h => by exact h.1) (Stp.cells_len _) (ak_ Stp.cells_len hx1)) rfl (ae_ aS_ rfl fun b2 => ?_))
   refine X_ 0 al_ rfl rfl rfl rfl rfl rfl (d_ (b_ rfl (g_ (c_ (a_ (h_ K_ rfl rfl rfl aZ_) rfl (a_ (m_ 0 bA_ rfl rfl rfl) rfl (a_ (ax_ ao_ rfl) rfl (E_ (bv_ rfl rfl) rfl fun r3 hr3 => ?_))))))))
   refine a_ (f_ rfl) rfl ?_
   cases r3
   ·
    replace hr3 := of_decide_eq_false hr3
    refine l_ rfl rfl (a_ (h_ K_ rfl rfl rfl k_) rfl (l_ rfl rfl (a_ (h_ o_ rfl rfl rfl w_) rfl (l_ rfl rfl (a_ (m_ 0 F_ rfl rfl rfl) rfl (l_ rfl rfl (a_ (bH_ W_ rfl) rfl (l_ rfl rfl (a_ (h_ K_ rfl rfl rfl k_) rfl ?_)))))))))
    refine l_ rfl rfl (a_ (h_ o_ rfl rfl rfl w_) rfl (l_ rfl rfl (a_ (m_ 0 F_ rfl rfl rfl) rfl (l_ rfl rfl (a_ (bH_ W_ rfl) rfl (l_ rfl rfl (a_ (ac_ rfl rfl rfl (aL_ (by omega) (by omega))) rfl (l_ rfl rfl (a_ (h_ K_ rfl rfl rfl k_) rfl ?_)))))))))
    refine l_ rfl rfl (a_ (h_ o_ rfl rfl rfl w_) rfl (l_ rfl rfl (a_ (m_ 0 F_ rfl rfl rfl) rfl (l_ rfl rfl (a_ (bH_ W_ rfl) rfl (l_ rfl rfl (a_ (ac_ rfl rfl rfl (aL_ (by omega) (by omega))) rfl (l_ rfl rfl (E_ (bv_ rfl rfl) rfl fun r4 hr4 => ?_)))))))))
    refine a_ (t_ rfl rfl) rfl (d_ (b_ rfl ?_))
    cases r4
    ·
     replace hr4 := of_decide_eq_false hr4
     refine z_ rfl (J_ (b_ rfl (c_ (a_ (f_ rfl) rfl (a_ (ac_ rfl rfl rfl (aL_ (by omega) (by omega))) rfl (a_ (e_ rfl) rfl (d_ (q_ rfl ?_))))))))
     exact aO_ ⟨i + 1, hlx1, kh_ hall hx1 ⟨by omega, by omega⟩⟩ (by dsimp only; omega) ⟨rfl, rfl, rfl, trivial⟩ (H_ D_) (fun _ _ h => h)
    ·
     replace hr4 := of_decide_eq_true hr4
     refine x_ rfl (g_ (c_ (a_ (e_ rfl) rfl (d_ (b_ rfl (u_ ?_))))))
     exact Y_ Tryz.results11 ⟨false, fun h => by cases h⟩ rfl C_ (fun _ _ _ => trivial)
   ·
    replace hr3 := of_decide_eq_true hr3
    refine n_ rfl rfl rfl rfl (n_ rfl rfl rfl rfl (n_ rfl rfl rfl rfl (n_ rfl rfl rfl rfl (n_ rfl rfl rfl rfl (n_ rfl rfl rfl rfl (n_ rfl rfl rfl rfl (n_ rfl rfl rfl rfl (n_ rfl rfl rfl rfl (n_ rfl rfl rfl rfl ?_)))))))))
    refine n_ rfl rfl rfl rfl (n_ rfl rfl rfl rfl (n_ rfl rfl rfl rfl (n_ rfl rfl rfl rfl (n_ rfl rfl rfl rfl (a_ (B_ rfl rfl) rfl (d_ (b_ rfl (x_ rfl (g_ ?_)))))))))
    refine c_ (a_ (e_ rfl) rfl (d_ (b_ rfl (u_ ?_))))
    exact Y_ Tryz.results11 ⟨false, fun h => by cases h⟩ rfl C_ (fun _ _ _ => trivial)
 ·
  replace hr1 := of_decide_eq_true hr1
  refine x_ rfl (g_ (c_ (a_ (e_ rfl) rfl (d_ (b_ rfl (u_ ?_))))))
  exact Y_ Tryz.results11 ⟨false, fun h => by cases h⟩ rfl C_ (fun _ _ _ => trivial)
theorem nV_ (Y : List Stp) (yad : Option Addr) (ycap : Nat) (Z : List Stp) (zad : Option Addr) (zcap : Nat) (hS : SameS Y Z) (hl : Y.length ≤ 1000000) (hfl : ∀ s ∈ Y, s.frm.length ≤ 1000000) : Tri Tryz.prog 18 #[.agg #[.slice yad (List.length Y) ycap], .agg #[.slice zad (List.length Z) zcap]] [] [aQ_ yad (List.flatMap Stp.cells Y), cz_ Y, aQ_ zad (List.flatMap Stp.cells Z), cz_ Z] (fun _ : Unit => .bool true) (fun _ => []) (fun _ => []) := by
 refine T_ Tryz.func18 rfl rfl Tryz.ntmps18 rfl fun v0 => ?_
 have hlen := hS.len
 refine g_ (c_ (aN_ rfl rfl fun b1 => ?_))
 refine aN_ rfl rfl fun b2 => ?_
 refine a_ (e_ rfl) rfl (d_ (b_ rfl (g_ (g_ (c_ (a_ (h_ aa_ rfl rfl rfl am_) rfl (a_ (m_ 1 aT_ rfl rfl rfl) rfl (a_ (ax_ ab_ rfl) rfl (a_ (h_ aa_ rfl rfl rfl am_) rfl ?_)))))))))
 refine a_ (m_ 0 aT_ rfl rfl rfl) rfl (a_ (ax_ ab_ rfl) rfl (E_ (bB_ rfl rfl) rfl fun r1 hr1 => ?_))
 refine d_ (b_ rfl ?_)
 cases r1
 ·
  replace hr1 := bD_ hr1
  refine z_ rfl (J_ (b_ rfl (g_ (g_ (c_ (a_ (e_ rfl) rfl (d_ (b_ rfl (ad_ ?_)))))))))
  refine bs_ (ι := {y : Nat // y ≤ List.length Y}) (fun y => [(2, zp_ b1 0), (3, zp_ b2 0), (4, .bool false), (5, .int .i64 (y.1 : Int))]) (fun y => ((b2, .cells #[.slice zad (List.length Z) zcap] 27 (0, 0)) :: ((b1, .cells #[.slice yad (List.length Y) ycap] 27 (0, 0)) :: []))) (fun y => [aQ_ yad (List.flatMap Stp.cells Y), cz_ Y, aQ_ zad (List.flatMap Stp.cells Z), cz_ Z]) (fun y => List.length Y - y.1) ⟨(0 : Nat), by simp⟩ ⟨rfl, rfl, rfl, rfl, trivial⟩ (N_ D_ D_) (fun _ _ h => h) ?_
  rintro ⟨i, hi_i⟩
  dsimp only at hi_i ⊢
  refine g_ (g_ (c_ (a_ (f_ rfl) rfl (a_ (h_ aa_ rfl rfl rfl am_) rfl (a_ (m_ 1 aT_ rfl rfl rfl) rfl (a_ (ax_ ab_ rfl) rfl (E_ (au_ rfl rfl) rfl fun r2 hr2 => ?_)))))))
  refine d_ (b_ rfl ?_)
  cases r2
  ·
   replace hr2 := of_decide_eq_false hr2
   refine z_ rfl (bg_ rfl (b_ rfl (g_ (c_ (a_ (e_ rfl) rfl (d_ (b_ rfl (u_ ?_))))))))
   exact Y_ Tryz.results18 () rfl C_ (fun _ _ _ => trivial)
  ·
   replace hr2 := of_decide_eq_true hr2
   have hlx1 : i < List.length Y := by omega
   obtain ⟨x1, hx1⟩ : ∃ e0, Y[i]? = some e0 := ⟨_, List.getElem?_eq_getElem hlx1⟩
   have hmx1 : x1 ∈ Y := List.mem_of_getElem? hx1
   have hlz : i < List.length Z := by have := hS.len; omega
   have hly1 : i < List.length Z := hlz
   obtain ⟨y1, hy1⟩ : ∃ e0, Z[i]? = some e0 := ⟨_, List.getElem?_eq_getElem hly1⟩
   have hmy1 : y1 ∈ Z := List.mem_of_getElem? hy1
   obtain ⟨he1, he2, he3, he4⟩ := hS.eq i x1 y1 hx1 hy1
   have hf1 := hfl x1 hmx1
   refine x_ rfl (J_ (b_ rfl (g_ (ad_ (g_ (c_ (a_ (h_ aa_ rfl rfl rfl am_) rfl (a_ (m_ 1 aT_ rfl rfl rfl) rfl (a_ (f_ rfl) rfl ?_)))))))))
   refine a_ (ah_ ab_ al_ rfl rfl (fun v _ h => aM_ (n := 9) Stp.cells_len (by decide) (by exact h.1) hx1) (by omega) (by first | omega | (simp; done))) rfl (a_ (aK_ (ad := yad) (us := Stp.cells x1) bV_ al_ rfl (fun v _ h => by exact h.1) (Stp.cells_len _) (ak_ Stp.cells_len hx1)) rfl (ae_ aS_ rfl fun b3 => ?_))
   refine X_ 0 al_ rfl rfl rfl rfl rfl rfl (d_ (b_ rfl (g_ (c_ (a_ (h_ aa_ rfl rfl rfl am_) rfl (a_ (m_ 1 aT_ rfl rfl rfl) rfl (a_ (f_ rfl) rfl (a_ (ah_ ab_ al_ rfl rfl (fun v _ h => aM_ (n := 9) Stp.cells_len (by decide) (by exact h.2.2.1) hy1) (by omega) (by first | omega | (simp; done))) rfl (a_ (aK_ (ad := zad) (us := Stp.cells y1) bV_ al_ rfl (fun v _ h => by exact h.2.2.1) (Stp.cells_len _) (ak_ Stp.cells_len hy1)) rfl ?_)))))))))
   refine ae_ aS_ rfl fun b4 => ?_
   refine X_ 0 al_ rfl rfl rfl rfl rfl rfl (d_ (b_ rfl (g_ (g_ (c_ (a_ (h_ K_ rfl rfl rfl r_) rfl (a_ (m_ 1 y_ rfl rfl rfl) rfl (a_ (h_ K_ rfl rfl rfl r_) rfl (a_ (m_ 0 y_ rfl rfl rfl) rfl ?_)))))))))
   refine E_ (bB_ rfl rfl) rfl fun r3 hr3 => ?_
   refine a_ (f_ rfl) rfl ?_
   cases r3
   ·
    replace hr3 := bD_ hr3
    refine l_ rfl rfl (a_ (h_ K_ rfl rfl rfl k_) rfl (l_ rfl rfl (a_ (P_ 1 R_ k_ rfl rfl rfl) rfl (l_ rfl rfl (a_ (h_ K_ rfl rfl rfl k_) rfl (l_ rfl rfl (a_ (P_ 0 R_ k_ rfl rfl rfl) rfl (l_ rfl rfl (E_ (hQ_ (p := (Stp.fact x1)) (q := (Stp.fact y1)) rfl rfl) rfl fun r4 hr4 => ?_)))))))))
    refine a_ (t_ rfl rfl) rfl (a_ (f_ rfl) rfl ?_)
    cases r4
    ·
     replace hr4 := of_decide_eq_false hr4
     refine l_ rfl rfl (a_ (h_ K_ rfl rfl rfl r_) rfl (l_ rfl rfl (a_ (m_ 1 y_ rfl rfl rfl) rfl (l_ rfl rfl (a_ (h_ K_ rfl rfl rfl r_) rfl (l_ rfl rfl (a_ (m_ 0 y_ rfl rfl rfl) rfl (l_ rfl rfl (E_ (bB_ rfl rfl) rfl fun r5 hr5 => ?_)))))))))
     refine a_ (t_ rfl rfl) rfl (a_ (f_ rfl) rfl ?_)
     cases r5
     ·
      replace hr5 := bD_ hr5
      refine l_ rfl rfl (a_ (h_ K_ rfl rfl rfl aZ_) rfl (l_ rfl rfl (a_ (m_ 1 bA_ rfl rfl rfl) rfl (l_ rfl rfl (a_ (ax_ ao_ rfl) rfl (l_ rfl rfl (a_ (h_ K_ rfl rfl rfl aZ_) rfl (l_ rfl rfl (a_ (m_ 0 bA_ rfl rfl rfl) rfl ?_)))))))))
      refine l_ rfl rfl (a_ (ax_ ao_ rfl) rfl (l_ rfl rfl (E_ (bB_ rfl rfl) rfl fun r6 hr6 => ?_)))
      refine a_ (t_ rfl rfl) rfl (d_ (b_ rfl ?_))
      cases r6
      ·
       replace hr6 := bD_ hr6
       refine z_ rfl (J_ (b_ rfl (g_ (c_ (a_ (e_ rfl) rfl (d_ (b_ rfl (ad_ ?_))))))))
       refine bs_ (ι := {y : Nat // y ≤ List.length (Stp.frm x1)}) (fun y => [(2, zp_ b1 0), (3, zp_ b2 0), (4, .bool false), (5, .int .i64 (i : Int)), (6, zp_ b3 0), (7, zp_ b4 0), (8, .int .i64 (y.1 : Int))]) (fun y => ((b4, .cells #[.int .i64 (Stp.rule y1), .int .i64 (Fc.kind (Stp.fact y1)), str (Fc.a (Stp.fact y1)), str (Fc.b (Stp.fact y1)), str (Fc.r (Stp.fact y1)), .int .i64 (Fc.lo (Stp.fact y1)), .int .i64 (Fc.hi (Stp.fact y1)), .int .i64 (Stp.piece y1), .slice (Stp.ad y1) (List.length (Stp.frm y1)) (Stp.cap y1)] 36 (0, 0)) :: ((b3, .cells #[.int .i64 (Stp.rule x1), .int .i64 (Fc.kind (Stp.fact x1)), str (Fc.a (Stp.fact x1)), str (Fc.b (Stp.fact x1)), str (Fc.r (Stp.fact x1)), .int .i64 (Fc.lo (Stp.fact x1)), .int .i64 (Fc.hi (Stp.fact x1)), .int .i64 (Stp.piece x1), .slice (Stp.ad x1) (List.length (Stp.frm x1)) (Stp.cap x1)] 36 (0, 0)) :: ((b2, .cells #[.slice zad (List.length Z) zcap] 27 (0, 0)) :: ((b1, .cells #[.slice yad (List.length Y) ycap] 27 (0, 0)) :: []))))) (fun y => [aQ_ yad (List.flatMap Stp.cells Y), cz_ Y, aQ_ zad (List.flatMap Stp.cells Z), cz_ Z]) (fun y => List.length (Stp.frm x1) - y.1) ⟨(0 : Nat), by simp⟩ ⟨rfl, rfl, rfl, rfl, rfl, rfl, rfl, trivial⟩ (N_ D_ (N_ D_ (N_ D_ D_))) (fun _ _ h => h) ?_
       rintro ⟨j, hi_j⟩
       dsimp only at hi_j ⊢
       refine g_ (g_ (c_ (a_ (f_ rfl) rfl (a_ (h_ K_ rfl rfl rfl aZ_) rfl (a_ (m_ 1 bA_ rfl rfl rfl) rfl (a_ (ax_ ao_ rfl) rfl (E_ (au_ rfl rfl) rfl fun r7 hr7 => ?_)))))))
       refine d_ (b_ rfl ?_)
       cases r7
       ·
        replace hr7 := of_decide_eq_false hr7
        refine z_ rfl (bg_ rfl (b_ rfl (c_ (a_ (f_ rfl) rfl (a_ (ac_ rfl rfl rfl (aL_ (by omega) (by omega))) rfl (a_ (e_ rfl) rfl (d_ (q_ rfl ?_))))))))
        exact aO_ ⟨i + 1, hlx1⟩ (by dsimp only; omega) ⟨rfl, rfl, rfl, rfl, trivial⟩ (N_ (H_ (H_ D_)) (H_ (H_ D_))) (fun _ _ h => h)
       ·
        replace hr7 := of_decide_eq_true hr7
        have hlx2 : j < List.length (Stp.frm x1) := by omega
        obtain ⟨x2, hx2⟩ : ∃ e0, (Stp.frm x1)[j]? = some e0 := ⟨_, List.getElem?_eq_getElem hlx2⟩
        have hmx2 : x2 ∈ (Stp.frm x1) := List.mem_of_getElem? hx2
        have hy2 : (Stp.frm y1)[j]? = some x2 := he4 ▸ hx2
        have hly2 : j < List.length (Stp.frm y1) := by rw [← he4]; omega
        refine x_ rfl (J_ (b_ rfl (g_ (ad_ (g_ ?_)))))
        refine aJ_ (by kernel_rfl) ?_
        refine M_ 0 [0, 1, 2, 3, 4, 5, 6, 7, 8, 9, 10] (by kernel_rfl) (fun _ a b => ⟨a, b⟩) (j_ rfl (h_ K_ rfl rfl rfl aZ_) rfl (j_ rfl (m_ 1 bA_ rfl rfl rfl) rfl (j_ rfl (f_ rfl) rfl (j_ rfl (ah_ ao_ r_ rfl rfl (fun v _ h => aM_ (n := 1) co_ (by decide) (by exact (h.2.1 x1 hmx1)) hx2) (by omega) (by first | omega | (simp; done))) rfl (j_ rfl (be_ (ad := (Stp.ad x1)) y_ rfl (fun v _ h => by exact (h.2.1 x1 hmx1)) (ak_ co_ hx2 0 _ rfl)) rfl (j_ rfl (h_ K_ rfl rfl rfl aZ_) rfl (j_ rfl (m_ 0 bA_ rfl rfl rfl) rfl (j_ rfl (f_ rfl) rfl (j_ rfl (ah_ ao_ r_ rfl rfl (fun v _ h => aM_ (n := 1) co_ (by decide) (by exact (h.2.2.2.1 y1 hmy1)) hy2) (by omega) (by first | omega | (simp; done))) rfl ?_)))))))))
        refine j_ rfl (be_ (ad := (Stp.ad y1)) y_ rfl (fun v _ h => by exact (h.2.2.2.1 y1 hmy1)) (ak_ co_ hy2 0 _ rfl)) rfl ?_
        refine bo_ rfl (bB_ rfl rfl) rfl fun r8 hr8 => ?_
        refine L_ (S_ (by kernel_rfl) (b_ rfl ?_))
        cases r8
        ·
         replace hr8 := bD_ hr8
         refine z_ rfl (J_ (b_ rfl (c_ (a_ (f_ rfl) rfl (a_ (ac_ rfl rfl rfl (aL_ (by omega) (by omega))) rfl (a_ (e_ rfl) rfl (d_ (q_ rfl ?_))))))))
         exact aO_ ⟨j + 1, hlx2⟩ (by dsimp only; omega) ⟨rfl, rfl, rfl, rfl, rfl, rfl, rfl, trivial⟩ (N_ D_ (N_ D_ (N_ D_ D_))) (fun _ _ h => h)
        ·
         replace hr8 := bC_ hr8
         first | exact absurd he1 hr8 | exact absurd he2 hr8 | exact absurd he3 hr8 | exact absurd rfl hr8 | (exfalso; rw [he4] at hr8; exact hr8 rfl)
      ·
       replace hr6 := bC_ hr6
       first | exact absurd he1 hr6 | exact absurd he2 hr6 | exact absurd he3 hr6 | exact absurd rfl hr6 | (exfalso; rw [he4] at hr6; exact hr6 rfl)
     ·
      replace hr5 := bC_ hr5
      first | exact absurd he1 hr5 | exact absurd he2 hr5 | exact absurd he3 hr5 | exact absurd rfl hr5 | (exfalso; rw [he4] at hr5; exact hr5 rfl)
    ·
     replace hr4 := of_decide_eq_true hr4
     first | exact absurd he1 hr4 | exact absurd he2 hr4 | exact absurd he3 hr4 | exact absurd rfl hr4 | (exfalso; rw [he4] at hr4; exact hr4 rfl)
   ·
    replace hr3 := bC_ hr3
    first | exact absurd he1 hr3 | exact absurd he2 hr3 | exact absurd he3 hr3 | exact absurd rfl hr3 | (exfalso; rw [he4] at hr3; exact hr3 rfl)
 ·
  replace hr1 := bC_ hr1
  exact absurd (congrArg Nat.cast hS.len) hr1
end Go.Proofs.YtaffcjgphlhppaaGreatDoor
namespace Go.Proofs.YtaffcjgphlhppaaGreatDoor
open Go Go.Sx Go.Proofs
attribute [local irreducible] Code.wp wpList wpAnyH
open Go.Vs
theorem ok_ax7 : Ax.ok (Ax.mk 7 false (Con.mk 0 [] 0 0 none 0 []) (Con.mk 0 [] 0 0 none 0 []) none 0 [] [114] [] []) := by constructor <;> simp [Con.ok, Con.ok.oks]
theorem nj_ : Ax.check (Ax.mk 7 false (Con.mk 0 [] 0 0 none 0 []) (Con.mk 0 [] 0 0 none 0 []) none 0 [] [114] [] []) = 0 := by decide +kernel
theorem ob_ {v : Vw} : (Ax.memF (Ax.mk 7 false (Con.mk 0 [] 0 0 none 0 []) (Con.mk 0 [] 0 0 none 0 []) none 0 [] [114] [] [])).p v := ⟨⟨.inl rfl, trivial⟩, ⟨.inl rfl, trivial⟩, .inl rfl⟩
theorem oy_ (x : Ax) (hok : x.ok) (hc : x.check = 0) (hk : x.kind = 7) : Tri Tryz.prog 26 #[Ax.val x] [] [Ax.memF x, fx_] (fun _ : Unit => .tuple #[.slice none 0 0, .slice none 0 0, .int .i64 22]) (fun _ => []) (fun _ => []) := by
 refine T_ Tryz.func26 rfl rfl Tryz.ntmps26 rfl fun v0 => ?_
 refine g_ (c_ (aN_ rfl rfl fun b1 => ?_))
 refine a_ (e_ rfl) rfl (a_ (e_ rfl) rfl (a_ (e_ rfl) rfl (d_ (b_ rfl (g_ (g_ (c_ (a_ (P_ 0 Tryz.isAgg58 Tryz.sizeOf58 rfl rfl rfl) rfl (Q_ (jc_ x hok) rfl C_ (fun v _ h => by exact ⟨h.1, h.2.1, trivial⟩) rfl fun _ => ?_)))))))))
 refine a_ (e_ rfl) rfl (d_ (b_ rfl (g_ (c_ (a_ (f_ rfl) rfl (E_ (bB_ rfl rfl) rfl fun r1 hr1 => ?_))))))
 refine d_ (b_ rfl ?_)
 cases r1
 ·
  replace hr1 := bD_ hr1
  refine z_ rfl (J_ (b_ rfl (g_ (c_ (Q_ (hs_ (-1)) rfl C_ (fun _ _ _ => by exact trivial) rfl fun ⟨kb, bm0⟩ => ?_)))))
  dsimp only
  refine bd_ (@List.perm_append_comm _ _ [_]) (a_ (e_ rfl) rfl (d_ (b_ rfl (g_ (c_ (a_ (f_ rfl) rfl (Q_ (nP_ kb) rfl C_ (fun _ _ _ => by exact trivial) rfl fun ⟨bk, bl, br⟩ => ?_)))))))
  dsimp only
  refine a_ (f_ rfl) rfl (a_ (aH_ rfl rfl) rfl (a_ (aH_ rfl rfl) rfl (a_ (e_ rfl) rfl (a_ (e_ rfl) rfl (d_ (b_ rfl (g_ (c_ (a_ (e_ rfl) rfl ?_)))))))))
  refine d_ (b_ rfl (g_ (g_ (c_ (a_ (h_ U_ rfl rfl rfl r_) rfl (a_ (m_ 0 y_ rfl rfl rfl) rfl (d_ (b_ rfl (ad_ ?_)))))))))
  refine g_ (g_ (c_ (E_ (aB_ rfl rfl) rfl fun r2 hr2 => ?_)))
  refine a_ (e_ rfl) rfl (d_ (b_ rfl ?_))
  cases r2
  ·
   replace hr2 := ne_of_beq_false hr2
   refine z_ rfl (c_ (E_ (aB_ rfl rfl) rfl fun r3 hr3 => ?_))
   refine a_ (e_ rfl) rfl (d_ (b_ rfl ?_))
   cases r3
   ·
    replace hr3 := ne_of_beq_false hr3
    refine z_ rfl (g_ (c_ (E_ (aB_ rfl rfl) rfl fun r4 hr4 => ?_)))
    refine a_ (e_ rfl) rfl (d_ (b_ rfl ?_))
    cases r4
    ·
     replace hr4 := ne_of_beq_false hr4
     refine z_ rfl (g_ (c_ (E_ (aB_ rfl rfl) rfl fun r5 hr5 => ?_)))
     refine a_ (e_ rfl) rfl (d_ (b_ rfl ?_))
     cases r5
     ·
      replace hr5 := ne_of_beq_false hr5
      refine z_ rfl (g_ (c_ (E_ (aB_ rfl rfl) rfl fun r6 hr6 => ?_)))
      refine a_ (e_ rfl) rfl (d_ (b_ rfl ?_))
      cases r6
      ·
       replace hr6 := ne_of_beq_false hr6
       refine z_ rfl (g_ (c_ (E_ (aB_ rfl rfl) rfl fun r7 hr7 => ?_)))
       refine a_ (e_ rfl) rfl (d_ (b_ rfl ?_))
       cases r7
       ·
        replace hr7 := ne_of_beq_false hr7
        refine z_ rfl (g_ (c_ (a_ (e_ rfl) rfl (a_ (e_ rfl) rfl (a_ (e_ rfl) rfl (d_ (b_ rfl (u_ ?_))))))))
        exact mB_ Tryz.results26 () rfl rfl rfl rfl C_ (fun _ _ _ => trivial)
       ·
        replace hr7 := eq_of_beq hr7
        exfalso; omega
      ·
       replace hr6 := eq_of_beq hr6
       exfalso; omega
     ·
      replace hr5 := eq_of_beq hr5
      exfalso; omega
    ·
     replace hr4 := eq_of_beq hr4
     exfalso; omega
   ·
    replace hr3 := eq_of_beq hr3
    exfalso; omega
  ·
   replace hr2 := eq_of_beq hr2
   exfalso; omega
 ·
  replace hr1 := bC_ hr1
  exact absurd hc hr1
theorem lz_ : Tri Tryz.prog 25 #[.slice none 0 0] [] [] (fun _ : Unit => .tuple #[.slice none 0 0, .int .i64 0]) (fun _ => []) (fun _ => []) := by
  refine T_ Tryz.func25 rfl rfl Tryz.ntmps25 rfl fun v0 => ?_
  refine g_ (c_ (a_ (e_ rfl) rfl (a_ (e_ rfl) rfl (d_ (b_ rfl (g_ (g_ (c_ (a_ (f_ rfl) rfl ?_)))))))))
  refine a_ (ax_ Tryz.runUnderlying53 rfl) rfl (a_ (bW_ (bv_ rfl rfl) (show _ = Value.bool false from congrArg Value.bool (by decide))) rfl (d_ (b_ rfl (z_ rfl (J_ (b_ rfl (g_ (g_ (c_ ?_)))))))))
  refine a_ (f_ rfl) rfl (a_ (ax_ Tryz.runUnderlying53 rfl) rfl (a_ (f_ rfl) rfl (d_ (b_ rfl (ad_ ?_)))))
  refine bs_ (ι := {y : Nat // y ≤ List.length ([] : List Ax)}) (fun y => [(0, .slice none 0 0), (2, .slice none 0 0), (3, .int .i64 0), (13, .slice none 0 0), (14, .int .i64 0), (15, .int .i64 (y.1 : Int))]) (fun y => ([])) (fun y => []) (fun y => List.length ([] : List Ax) - y.1) ⟨(0 : Nat), by simp⟩ ⟨rfl, rfl, rfl, rfl, rfl, rfl, trivial⟩ C_ (fun _ _ _ => trivial) ?_
  rintro ⟨i, hi_i⟩
  dsimp only at hi_i ⊢
  refine g_ (c_ (E_ (au_ rfl rfl) rfl fun r1 hr1 => ?_))
  refine d_ (b_ rfl (g_ ?_))
  cases r1
  · skip
    replace hr1 := of_decide_eq_false hr1
    refine z_ rfl (bg_ rfl (b_ rfl (g_ (g_ (c_ (a_ (f_ rfl) rfl (a_ (ax_ Tryz.runUnderlying53 rfl) rfl (a_ (f_ rfl) rfl (d_ ?_)))))))))
    refine b_ rfl (ad_ ?_)
    refine bs_ (ι := {y : Nat // y ≤ List.length ([] : List Ax)}) (fun y => [(0, .slice none 0 0), (2, .slice none 0 0), (3, .int .i64 0), (25, .slice none 0 0), (26, .int .i64 0), (27, .int .i64 (y.1 : Int))]) (fun y => ([])) (fun y => []) (fun y => List.length ([] : List Ax) - y.1) ⟨(0 : Nat), by simp⟩ ⟨rfl, rfl, rfl, rfl, rfl, rfl, trivial⟩ C_ (fun _ _ _ => trivial) ?_
    rintro ⟨j, hi_j⟩
    dsimp only at hi_j ⊢
    refine g_ (c_ (E_ (au_ rfl rfl) rfl fun r2 hr2 => ?_))
    refine d_ (b_ rfl (g_ ?_))
    cases r2
    · skip
      replace hr2 := of_decide_eq_false hr2
      refine z_ rfl (bg_ rfl (b_ rfl (g_ (c_ (a_ (f_ rfl) rfl (a_ (e_ rfl) rfl (a_ (e_ rfl) rfl (d_ (b_ rfl ?_)))))))))
      refine u_ ?_
      exact nT_ Tryz.results25 () rfl rfl rfl C_ (fun _ _ _ => trivial)
    · skip
      replace hr2 := of_decide_eq_true hr2
      exfalso; omega
  · skip
    replace hr1 := of_decide_eq_true hr1
    exfalso; omega
theorem src0_c (x : Ax) (hok : x.ok) (hc : x.check = 0) (hk : x.kind = 7) : Tri Tryz.prog 24 #[.slice none 0 0, Ax.val x, .slice none 0 0] [] [Ax.memF x, fx_] (fun _ : Unit => .int .i64 22) (fun _ => []) (fun _ => []) := by
  refine T_ Tryz.func24 rfl rfl Tryz.ntmps24 rfl fun v0 => ?_
  refine g_ (c_ (aN_ rfl rfl fun b1 => ?_))
  refine a_ (e_ rfl) rfl (d_ (b_ rfl (g_ (c_ (a_ (f_ rfl) rfl (Q_ (lz_) rfl C_ (fun _ _ _ => by exact trivial) rfl fun _ => ?_))))))
  refine a_ (f_ rfl) rfl (a_ (aH_ rfl rfl) rfl (a_ (aH_ rfl rfl) rfl (a_ (e_ rfl) rfl (a_ (e_ rfl) rfl (d_ (b_ rfl (g_ (g_ (c_ ?_)))))))))
  refine a_ (f_ rfl) rfl (a_ (bW_ (bB_ rfl rfl) (show _ = Value.bool false from congrArg Value.bool (by decide))) rfl (d_ (b_ rfl (z_ rfl (J_ (b_ rfl (g_ (c_ (a_ (P_ 0 Tryz.isAgg58 Tryz.sizeOf58 rfl rfl rfl) rfl ?_)))))))))
  refine Q_ (oy_ x hok hc hk) rfl C_ (fun v _ h => by exact ⟨h.1, h.2.1, trivial⟩) rfl fun _ => ?_
  refine a_ (f_ rfl) rfl (a_ (aH_ rfl rfl) rfl (a_ (aH_ rfl rfl) rfl (a_ (aH_ rfl rfl) rfl (a_ (e_ rfl) rfl (a_ (e_ rfl) rfl (a_ (e_ rfl) rfl (d_ (b_ rfl (g_ ?_)))))))))
  refine g_ (c_ (a_ (f_ rfl) rfl (a_ (bW_ (bB_ rfl rfl) (show _ = Value.bool true from congrArg Value.bool (by decide))) rfl (d_ (b_ rfl (x_ rfl (g_ (c_ (a_ (f_ rfl) rfl ?_)))))))))
  refine a_ (e_ rfl) rfl (d_ (b_ rfl (u_ ?_)))
  exact Y_ Tryz.results24 () rfl C_ (fun _ _ _ => trivial)
theorem nm_ (l : List Stp) (ad : Option Addr) (cap : Nat) (L : Str) (e : Int) (hE : ey_ l = (L, e)) (hll : l.length ≤ 10000000) (hfr : ∀ s ∈ l, s.frm.length ≤ 1000000) (hsf : ∀ s ∈ l, s.fact.sml) : Tri Tryz.prog 15 #[.agg #[.slice ad l.length cap]] [] [aQ_ ad (List.flatMap Stp.cells l), cz_ l] (fun y : {y : Value × Hp // bu_ 5 1 y.1 (List.length L) (List.flatMap u8C L) y.2} => .tuple #[y.1.1, .int .i64 e]) (fun y => y.1.2) (fun _ => []) := by
  have h := nk_ l ad cap hll hfr hsf
  rw [hE] at h
  exact h
def er_ : Stp := (Stp.mk 1 (aE_ [42] [42]) (-1) none 0 [])
theorem sn_e0 : ey_ [] = ([0, 0, 0, 0], 0) := by decide +kernel
theorem oP_ : ey_ [er_] = ((ey_ [er_]).1, 0) := by
  have : (ey_ [er_]).2 = 0 := by decide +kernel
  rw [← this]
theorem sn_d1 {Y : List Stp} {e : Int} (h : nx_ (ey_ [er_]).1 Y e) : e = 0 ∧ SameS Y [er_] := by
  have hd := oH_ oP_ (by intro s hs; rw [List.mem_singleton] at hs; subst hs; decide)
  rcases h with ⟨h1, h2⟩ | ⟨h1, _⟩
  · rw [hd, Option.some.injEq] at h1; exact ⟨h2, mu_ h1.symm⟩
  · rw [hd] at h1; cases h1
theorem sn_d0 {Y : List Stp} {e : Int} (h : nx_ [0] Y e) : e = 120 := by
  rcases h with ⟨h1, h2⟩ | ⟨_, _, h⟩
  · rw [show kC_ [0] = none from rfl] at h1; cases h1
  · exact h
theorem sn_c1 {e : Int} (h : hP_ [] (aE_ [42] [42]) [er_] e) : e = 0 := by
  refine ix_ h (.inr (.inr ⟨by decide +kernel, by decide, .inl ⟨fun j s hj => ?_, ⟨er_, rfl, rfl⟩, rfl⟩⟩))
  match j with
  | 0 => simp only [List.getElem?_cons_zero, Option.some.injEq] at hj; subst hj; decide +kernel
  | j + 1 => simp at hj
theorem sn_c2 {e : Int} (h : hP_ [] (aE_ [42] [42]) [] e) : e = 120 :=
  ix_ h (.inr (.inr ⟨by decide +kernel, by decide, .inr ⟨fun q => (by obtain ⟨_, t, ht, _⟩ := q; simp at ht), rfl⟩⟩))
theorem ff_ {l : List Fc} (h : l.all (fun f => Nat.ble f.a.length 17592186044414 && (Nat.ble f.b.length 17592186044414 && Nat.ble f.r.length 17592186044414)) = true) : ∀ x ∈ l, x.sml := fun x hx => by
  have := List.all_eq_true.1 h x hx
  simp only [Bool.and_eq_true, Nat.ble_eq] at this
  exact ⟨this.1, this.2.1, this.2.2⟩
theorem gZ_ {v : Vw} : (cz_ [er_]).p v := fun x hx => by rw [List.mem_singleton] at hx; subst hx; exact .inl rfl
theorem mt_ {Y Z : List Stp} (h : SameS Y Z) {n : Nat} (hz : ∀ s ∈ Z, s.frm.length ≤ n) : ∀ s ∈ Y, s.frm.length ≤ n := fun s hs => by
  obtain ⟨i, hi⟩ := List.getElem?_of_mem hs
  have hl := (List.getElem?_eq_some_iff.1 hi).1
  have hz' := List.getElem?_eq_getElem (show i < Z.length by have := h.len; omega)
  rw [(h.eq i s _ hi hz').2.2.2]
  exact hz _ (List.getElem_mem _)
theorem strt58 : gw_ Tryz.prog 58 [(0, 1), (1, 1), (2, 5), (7, 5), (12, 1), (13, 1), (14, 1), (15, 1)] [.int .i64 0, .bool false, .int .i64 0, str [], .int .i64 0, .int .i64 0, .slice none 0 0, .int .i64 0, str [], .int .i64 0, .int .i64 0, .slice none 0 0, .slice none 0 0, str [], str [], str []] := ⟨_, Tryz.zeroValue58, U_, fun w => by simp [r_, aX_, w_, Tryz.sizeOf46, V_]⟩
theorem iF_ : gw_ Tryz.prog 27 [(0, 1)] [.slice none 0 0] := ⟨_, fv_, aa_, fun w => by simp [am_]⟩
set_option maxHeartbeats 1000000 in
theorem ms_ : Tri Tryz.prog 9 #[] [] [gX_, fx_] (fun _ : Unit => .bool true) (fun _ => []) (fun _ => []) := by
 refine T_ Tryz.func9 rfl rfl Tryz.ntmps9 rfl fun v0 => ?_
 refine g_ (c_ (a_ (e_ rfl) rfl (d_ (b_ rfl (g_ (c_ (Q_ (ii_ [65] [114] [66]) rfl C_ (fun _ _ _ => by exact trivial) rfl fun _ => ?_)))))))
 refine Q_ (hv_ [66] [33]) rfl C_ (fun _ _ _ => by exact trivial) rfl fun _ => ?_
 refine aW_ ag_ k_ ba_ rfl rfl rfl rfl rfl rfl fun b1 => ?_
 refine by_ (List.flatMap Fc.cells [(bq_ [65] [114] [66]), (aE_ [66] [33])]) D_ rfl ?_
 refine a_ (e_ rfl) rfl (d_ (b_ rfl (g_ (g_ (c_ (Q_ (hv_ [65] [33]) rfl C_ (fun _ _ _ => by exact trivial) rfl fun _ => ?_))))))
 refine aW_ ao_ r_ cH_ rfl rfl rfl rfl rfl rfl fun b2 => ?_
 refine by_ (List.flatMap cU_ [0, 1]) D_ rfl ?_
 refine a_ (f_ rfl) rfl (Q_ (fN_ 9 (aE_ [65] [33]) [0, 1] (some ⟨b2, 0, none⟩) 2 [(bq_ [65] [114] [66]), (aE_ [66] [33])] (some ⟨b1, 0, none⟩) 2 0 (by decide) (by decide) (ff_ (by decide +kernel)) (by decide) (by decide +kernel)) rfl C_ (fun v _ h => by exact ⟨h.1, h.2.1, h.2.2.1, trivial⟩) rfl fun _ => ?_)
 refine a_ (br_ rfl) rfl (a_ (f_ rfl) rfl (l_ rfl rfl (Q_ (hv_ [65] [33]) rfl C_ (fun _ _ _ => by exact trivial) rfl fun _ => ?_)))
 refine l_ rfl rfl (aW_ ao_ r_ cH_ rfl rfl rfl rfl rfl rfl fun b3 => ?_)
 refine by_ (List.flatMap cU_ [1, 0]) D_ rfl ?_
 refine l_ rfl rfl (a_ (f_ rfl) rfl (l_ rfl rfl (Q_ (fN_ 9 (aE_ [65] [33]) [1, 0] (some ⟨b3, 0, none⟩) 2 [(bq_ [65] [114] [66]), (aE_ [66] [33])] (some ⟨b1, 0, none⟩) 2 120 (by decide) (by decide) (ff_ (by decide +kernel)) (by decide) (by decide +kernel)) rfl C_ (fun v _ h => by exact ⟨h.1, h.2.2.1, h.2.2.2.1, trivial⟩) rfl fun _ => ?_)))
 refine l_ rfl rfl (a_ (br_ rfl) rfl (a_ (t_ rfl rfl) rfl (a_ (f_ rfl) rfl (l_ rfl rfl (Q_ (ii_ [65] [114] [65]) rfl C_ (fun _ _ _ => by exact trivial) rfl fun _ => ?_)))))
 refine l_ rfl rfl (aW_ ao_ r_ cH_ rfl rfl rfl rfl rfl rfl fun b4 => ?_)
 refine by_ (List.flatMap cU_ [0]) D_ rfl ?_
 refine l_ rfl rfl (Q_ (hv_ [65] [33]) rfl C_ (fun _ _ _ => by exact trivial) rfl fun _ => ?_)
 refine l_ rfl rfl (aW_ ag_ k_ ba_ rfl rfl rfl rfl rfl rfl fun b5 => ?_)
 refine by_ (List.flatMap Fc.cells [(aE_ [65] [33])]) D_ rfl ?_
 refine l_ rfl rfl (Q_ (fN_ 15 (bq_ [65] [114] [65]) [0] (some ⟨b4, 0, none⟩) 1 [(aE_ [65] [33])] (some ⟨b5, 0, none⟩) 1 0 (by decide) (by decide) (ff_ (by decide +kernel)) (by decide) (by decide +kernel)) rfl C_ (fun v _ h => by exact ⟨h.2.1, h.1, h.2.2.2.2.2.1, trivial⟩) rfl fun _ => ?_)
 refine l_ rfl rfl (a_ (br_ rfl) rfl (a_ (t_ rfl rfl) rfl (d_ (b_ rfl (z_ rfl (J_ (b_ rfl (g_ (c_ ?_)))))))))
 refine a_ (az_ fy_ rfl rfl) rfl (ae_ ba_ rfl fun b6 => ?_)
 refine X_ 0 k_ rfl rfl rfl rfl rfl rfl (d_ (b_ rfl (g_ (c_ (a_ (az_ fy_ rfl rfl) rfl (ae_ ba_ rfl fun b7 => ?_))))))
 refine X_ 0 k_ rfl rfl rfl rfl rfl rfl (d_ (b_ rfl (g_ (g_ (c_ (a_ (P_ 0 R_ k_ rfl rfl rfl) rfl (aW_ ao_ r_ cH_ rfl rfl rfl rfl rfl rfl fun b8 => ?_)))))))
 refine by_ (List.flatMap cU_ [0]) D_ rfl ?_
 refine a_ (P_ 1 R_ k_ rfl rfl rfl) rfl (aW_ ag_ k_ ba_ rfl rfl rfl rfl rfl rfl fun b9 => ?_)
 refine by_ (List.flatMap Fc.cells [(Fc.mk 3 [65] [] [102] 3 5)]) D_ rfl ?_
 refine Q_ (fN_ 16 (Fc.mk 3 [65] [] [102] 0 9) [0] (some ⟨b8, 0, none⟩) 1 [(Fc.mk 3 [65] [] [102] 3 5)] (some ⟨b9, 0, none⟩) 1 0 (by decide) (by decide) (ff_ (by decide +kernel)) (by decide) (by decide +kernel)) rfl C_ (fun v _ h => by exact ⟨h.2.1, h.1, h.2.2.2.2.2.2.2.1, trivial⟩) rfl fun _ => ?_
 refine a_ (br_ rfl) rfl (a_ (f_ rfl) rfl (l_ rfl rfl (a_ (P_ 1 R_ k_ rfl rfl rfl) rfl (l_ rfl rfl (aW_ ao_ r_ cH_ rfl rfl rfl rfl rfl rfl fun b10 => ?_)))))
 refine by_ (List.flatMap cU_ [0]) D_ rfl ?_
 refine l_ rfl rfl (a_ (P_ 0 R_ k_ rfl rfl rfl) rfl (l_ rfl rfl (aW_ ag_ k_ ba_ rfl rfl rfl rfl rfl rfl fun b11 => ?_)))
 refine by_ (List.flatMap Fc.cells [(Fc.mk 3 [65] [] [102] 0 9)]) D_ rfl ?_
 refine l_ rfl rfl (Q_ (fN_ 16 (Fc.mk 3 [65] [] [102] 3 5) [0] (some ⟨b10, 0, none⟩) 1 [(Fc.mk 3 [65] [] [102] 0 9)] (some ⟨b11, 0, none⟩) 1 120 (by decide) (by decide) (ff_ (by decide +kernel)) (by decide) (by decide +kernel)) rfl C_ (fun v _ h => by exact ⟨h.2.1, h.1, h.2.2.2.2.2.2.2.2.2.1, trivial⟩) rfl fun _ => ?_)
 refine l_ rfl rfl (a_ (br_ rfl) rfl (a_ (t_ rfl rfl) rfl (d_ (b_ rfl (z_ rfl (J_ (b_ rfl (g_ (c_ ?_)))))))))
 refine Q_ (hv_ [42] [42]) rfl C_ (fun _ _ _ => by exact trivial) rfl fun _ => ?_
 refine a_ (az_ ml_ rfl rfl) rfl (aW_ ab_ al_ aS_ rfl rfl rfl rfl rfl rfl fun b12 => ?_)
 refine by_ (List.flatMap Stp.cells [(Stp.mk 1 (aE_ [42] [42]) (-1) none 0 ([] : List Int))]) D_ rfl ?_
 refine a_ (az_ iF_ rfl rfl) rfl (ae_ fv_ rfl fun b13 => ?_)
 refine X_ 0 cb_ rfl rfl rfl rfl rfl rfl (d_ (b_ rfl (g_ (c_ (a_ (az_ iF_ rfl rfl) rfl (Q_ (nm_ [] none 0 [0, 0, 0, 0] 0 sn_e0 (by decide) (by decide) (by decide)) rfl C_ (fun v _ h => by exact ⟨(.inl rfl), fj_, trivial⟩) rfl fun ⟨⟨sve1, He1⟩, he1⟩ => ?_))))))
 dsimp only
 refine bd_ oU_ (dB_ he1 eq_ fun ea1 ec1 hea1 hcea1 hmea1 hzea1 => ?_)
 subst hea1
 refine a_ (f_ rfl) rfl (a_ (aH_ rfl rfl) rfl (a_ (aH_ rfl rfl) rfl (a_ (e_ rfl) rfl (a_ (e_ rfl) rfl (d_ (b_ rfl (g_ (c_ (a_ (P_ 0 eb_ cb_ rfl rfl rfl) rfl ?_)))))))))
 refine Q_ (nm_ [er_] (some ⟨b12, 0, none⟩) 1 (ey_ [er_]).1 0 oP_ (by decide) (by decide) (by decide)) rfl C_ (fun v _ h => by exact ⟨h.2.1, gZ_, trivial⟩) rfl fun ⟨⟨sve2, He2⟩, he2⟩ => ?_
 dsimp only
 refine bd_ oU_ (dB_ he2 eq_ fun ea2 ec2 hea2 hcea2 hmea2 hzea2 => ?_)
 subst hea2
 refine a_ (f_ rfl) rfl (a_ (aH_ rfl rfl) rfl (a_ (aH_ rfl rfl) rfl (a_ (e_ rfl) rfl (a_ (e_ rfl) rfl (d_ (b_ rfl (g_ (c_ (a_ (f_ rfl) rfl ?_)))))))))
 refine Q_ (kc_ ((ey_ [er_]).1) ea2 ec2 ⟨hcea2, hmea2, hzea2⟩) rfl C_ (fun v _ h => by exact ⟨h.1, trivial⟩) rfl fun ⟨⟨⟨Y1, ya1, yc1⟩, ye1⟩, hD1, hY1, hM1, hZ1⟩ => ?_
 dsimp only
 dsimp only at hD1 hY1 hM1 hZ1
 obtain ⟨rfl, hS1⟩ := sn_d1 hD1; have hl1 := hS1.len
 refine a_ (f_ rfl) rfl (a_ (aH_ rfl rfl) rfl (a_ (aH_ rfl rfl) rfl (ae_ fv_ rfl fun b14 => ?_)))
 refine X_ 0 cb_ rfl rfl rfl rfl rfl rfl (a_ (e_ rfl) rfl (d_ (b_ rfl (g_ (c_ (aW_ bt_ eV_ Tryz.zeroValue5 rfl rfl rfl rfl rfl rfl fun b15 => ?_))))))
 refine by_ (List.flatMap u8C [(0 : UInt8)]) D_ rfl ?_
 refine Q_ (kc_ [(0 : UInt8)] (some ⟨b15, 0, none⟩) 1 ⟨Nat.le_refl _, (show 1 ≤ maxLen by decide), fun q => by cases q⟩) rfl C_ (fun v _ h => by exact ⟨h.1, trivial⟩) rfl fun ⟨⟨⟨Y2, ya2, yc2⟩, ye2⟩, hD2, hY2, hM2, hZ2⟩ => ?_
 dsimp only
 dsimp only at hD2 hY2 hM2 hZ2
 obtain rfl := sn_d0 hD2
 refine a_ (f_ rfl) rfl (a_ (aH_ rfl rfl) rfl (a_ (aH_ rfl rfl) rfl (ae_ fv_ rfl fun b16 => ?_)))
 refine X_ 0 cb_ rfl rfl rfl rfl rfl rfl (a_ (e_ rfl) rfl (d_ (b_ rfl (g_ (g_ ?_)))))
 refine aJ_ (by kernel_rfl) ?_
 refine M_ 36 [1] (by kernel_rfl) (fun _ a b => ⟨a, b⟩) (j_ rfl (P_ 2 eb_ cb_ rfl rfl rfl) rfl (L_ (I_ 0 rfl (by kernel_rfl) (Q_ (hv_ [42] [42]) rfl C_ (fun _ _ _ => by exact trivial) rfl fun _ => ?_))))
 refine d_ (q_ rfl (A_ (fun _ a b => ⟨a, b⟩) (I_ 2 rfl (by kernel_rfl) (Q_ (fs_ [] none 0 (aE_ [42] [42]) [er_] (some ⟨b12, 0, none⟩) 1 (by decide) (fun x hx => by simp at hx) (by decide) (by decide) (by decide)) rfl C_ (fun v _ h => by exact ⟨.inl rfl, h.2.2.2.2.2.2.2.1, gZ_, h.2.2.2.2.2.2.2.2.2.2.2.2.2.2.2.2.2.1, trivial⟩) rfl fun ⟨ce1, hC1⟩ => ?_))))
 dsimp only
 try dsimp only at hC1
 obtain rfl := sn_c1 hC1
 refine d_ (q_ rfl (A_ (fun _ a b => ⟨a, b⟩) (M_ 31 [3, 4, 6] (by kernel_rfl) (fun _ a b => ⟨a, b⟩) (j_ rfl (bW_ (bB_ rfl rfl) (show _ = Value.bool false from congrArg Value.bool (by decide))) rfl (j_ rfl (f_ rfl) rfl (p_ rfl rfl rfl (az_ iF_ rfl rfl) rfl (L_ (I_ 5 rfl (by kernel_rfl) (l_ rfl rfl ?_)))))))))
 refine Q_ (hv_ [42] [42]) rfl C_ (fun _ _ _ => by exact trivial) rfl fun _ => ?_
 refine d_ (q_ rfl (A_ (fun _ a b => ⟨a, b⟩) (I_ 7 rfl (by kernel_rfl) (l_ rfl rfl (Q_ (fs_ [] none 0 (aE_ [42] [42]) [] none 0 (by decide) (fun x hx => by simp at hx) (by decide) (by decide) (by decide)) rfl C_ (fun v _ h => by exact ⟨.inl rfl, (.inl rfl), fj_, h.2.2.2.2.2.2.2.2.2.2.2.2.2.2.2.2.2.1, trivial⟩) rfl fun ⟨ce2, hC2⟩ => ?_)))))
 dsimp only
 try dsimp only at hC2
 obtain rfl := sn_c2 hC2
 refine d_ (q_ rfl (A_ (fun _ a b => ⟨a, b⟩) (M_ 21 [8, 9, 10, 11, 12, 13, 14, 15] (by kernel_rfl) (fun _ a b => ⟨a, b⟩) (p_ rfl rfl rfl (bW_ (bB_ rfl rfl) (show _ = Value.bool false from congrArg Value.bool (by decide))) rfl (j_ rfl (t_ rfl rfl) rfl (j_ rfl (f_ rfl) rfl (p_ rfl rfl rfl (f_ rfl) rfl (p_ rfl rfl rfl (kN_ hT_ jm_ dh_ rfl (fun v _ h => by exact h.2.2.2.2.2.2.1)) rfl ?_))))))))
 refine at_ rfl rfl rfl (fH_ rfl rfl) rfl fun r1 hr1 => ?_
 refine j_ rfl (t_ rfl rfl) rfl (j_ rfl (f_ rfl) rfl (L_ ?_))
 cases r1
 ·
  replace hr1 := bD_ hr1
  refine M_ 11 [16, 17, 18, 19, 20, 21, 22, 23, 24, 25] (by kernel_rfl) (fun _ a b => ⟨a, b⟩) (p_ rfl rfl rfl (f_ rfl) rfl (p_ rfl rfl rfl (bW_ (bB_ rfl rfl) (show _ = Value.bool false from congrArg Value.bool (by decide))) rfl (j_ rfl (t_ rfl rfl) rfl (j_ rfl (f_ rfl) rfl (p_ rfl rfl rfl (f_ rfl) rfl (p_ rfl rfl rfl (bW_ (bB_ rfl rfl) (show _ = Value.bool false from congrArg Value.bool (by decide))) rfl (j_ rfl (t_ rfl rfl) rfl (j_ rfl (f_ rfl) rfl (p_ rfl rfl rfl (P_ 1 eb_ cb_ rfl rfl rfl) rfl ?_)))))))))
  refine p_ rfl rfl rfl (P_ 2 eb_ cb_ rfl rfl rfl) rfl (L_ (I_ 26 rfl (by kernel_rfl) (l_ rfl rfl (Q_ (nV_ Y1 ya1 yc1 [er_] (some ⟨b12, 0, none⟩) 1 hS1 (by rw [hl1]; decide) (fun s hs => mt_ hS1 (by decide) s hs)) rfl C_ (fun v _ h => by exact ⟨h.2.2.2.1, h.2.2.2.2.1, h.2.2.2.2.2.2.2.1, gZ_, trivial⟩) rfl fun _ => ?_))))
  refine d_ (q_ rfl (A_ (fun _ a b => ⟨a, b⟩) (M_ 0 [27, 28, 29, 30, 31, 32, 33, 34, 35, 36] (by kernel_rfl) (fun _ a b => ⟨a, b⟩) (p_ rfl rfl rfl (br_ rfl) rfl (j_ rfl (t_ rfl rfl) rfl (j_ rfl (f_ rfl) rfl (p_ rfl rfl rfl (f_ rfl) rfl (p_ rfl rfl rfl (bW_ (bB_ rfl rfl) (show _ = Value.bool false from congrArg Value.bool (by decide))) rfl (j_ rfl (t_ rfl rfl) rfl ?_)))))))))
  refine j_ rfl (f_ rfl) rfl (p_ rfl rfl rfl (f_ rfl) rfl (p_ rfl rfl rfl (bW_ (bB_ rfl rfl) (show _ = Value.bool false from congrArg Value.bool (by decide))) rfl (j_ rfl (t_ rfl rfl) rfl (L_ (S_ (by kernel_rfl) (b_ rfl (z_ rfl (J_ (b_ rfl ?_)))))))))
  refine g_ (c_ (a_ (az_ strt58 rfl rfl) rfl (Q_ (src0_c (Ax.mk 7 false (Con.mk 0 [] 0 0 none 0 []) (Con.mk 0 [] 0 0 none 0 []) none 0 [] [114] [] []) ok_ax7 nj_ rfl) rfl C_ (fun v _ h => by exact ⟨ob_, h.2.2.2.2.2.2.2.2.2.2.2.2.2.2.2.2.2.2.1, trivial⟩) rfl fun _ => ?_)))
  refine a_ (bW_ (aB_ rfl rfl) (show _ = Value.bool true from congrArg Value.bool (by decide))) rfl (a_ (e_ rfl) rfl (d_ (b_ rfl (u_ ?_))))
  exact Y_ Tryz.results9 () rfl C_ (fun _ _ _ => trivial)
 ·
  replace hr1 := bC_ hr1
  exact absurd rfl hr1
end Go.Proofs.YtaffcjgphlhppaaGreatDoor
namespace Go.Proofs.YtaffcjgphlhppaaGreatDoor
open Go Go.Sx Go.Proofs
attribute [local irreducible] Code.wp wpList wpAnyH
open Go.Vs
theorem mK_ (k : Int) : 0 ≤ ft_ k ∧ ft_ k ≤ 2 := by unfold ft_; split <;> (try split) <;> omega
section
variable {P : Program} {N : Nf} {v0 : Vw} {H0 : Hp} {R : Exit → Act → World → Prop} {K : List Kt} {fr : Fr} {H F : Hp} {Γ : List Fct} {ops : Array Oper} {l : List Oper} {ty : TypeId} {ps : String} {af : Array Edge}
end
end Go.Proofs.YtaffcjgphlhppaaGreatDoor
namespace Go.Proofs.YtaffcjgphlhppaaGreatDoor
open Go Go.Sx Go.Proofs
attribute [local irreducible] Code.wp wpList wpAnyH
open Go.Vs
theorem hF_ {p : List Pc} {fs : List Fc} {s : Stp} (h : cV_ p fs s = true) : 1 ≤ s.rule ∧ s.rule ≤ 16 ∧ -1 ≤ s.piece ∧ (s.piece < (p.length : Int)) ∧ s.frm.length ≤ 2 ∧ ∀ q ∈ s.frm, 0 ≤ q ∧ q < (fs.length : Int) := by
  unfold cV_ at h
  simp only [Bool.and_eq_true, decide_eq_true_eq] at h
  obtain ⟨h1, h2, _, h4, h5, h6, _⟩ := h
  have hm := mK_ s.rule
  refine ⟨h1, h2, ?_, ?_, by omega, fun q hq => ⟨(dt_ h5 hq).1, (dt_ h5 hq).2.1⟩⟩
  · by_cases hz : de_ s.rule = 0
    · rw [fV_ hz] at h6; have := of_decide_eq_true h6; omega
    · have := ((fU_ hz).1 h6).1; omega
  · by_cases hz : de_ s.rule = 0
    · rw [fV_ hz] at h6; have := of_decide_eq_true h6; omega
    · exact ((fU_ hz).1 h6).2.1
theorem lR_ {p : List Pc} {fs : List Fc} {s : Stp} (h : cV_ p fs s = true) : cV_ p [] s = true ↔ s.frm = [] := by
  constructor
  · intro h0
    cases hf : s.frm with
    | nil => rfl
    | cons q t => have := ((hF_ h0).2.2.2.2.2) q (by rw [hf]; exact List.mem_cons_self); simp at this; omega
  · intro hf
    unfold cV_ at h ⊢
    rw [hf] at h ⊢
    exact h
theorem jb_ {p : List Pc} {f : Fc} {l : List Stp} (h : hP_ p f l 0) : cp_ p = 0 ∧ l.length ≤ 65536 ∧ gS_ p l ∧ ∃ t, l[l.length - 1]? = some t ∧ t.fact = f := by
  rcases h with ⟨h1, h2⟩ | ⟨_, _, h2⟩ | ⟨h1, h2, ⟨h3, h4, _⟩ | ⟨_, h3⟩⟩
  · exact absurd h2.symm h1
  · exact absurd h2 (by decide)
  · exact ⟨h1, h2, h3, h4⟩
  · exact absurd h3 (by decide)
theorem oI_ {p : List Pc} {f : Fc} {l : List Stp} {e : Int} (h : hP_ p f l e) (h1 : cp_ p = 0) (h2 : l.length ≤ 65536) : (e = 0 ↔ gS_ p l ∧ ∃ t, l[l.length - 1]? = some t ∧ t.fact = f) ∧ (e = 0 ∨ e = 120) := by
  rcases h with ⟨h3, _⟩ | ⟨_, h3, _⟩ | ⟨_, _, ⟨h3, h4, rfl⟩ | ⟨h3, rfl⟩⟩
  · exact absurd h1 h3
  · omega
  · exact ⟨⟨fun _ => ⟨h3, h4⟩, fun _ => rfl⟩, .inl rfl⟩
  · exact ⟨⟨fun q => (by cases q), fun q => absurd q h3⟩, .inr rfl⟩
theorem iy_ {p : List Pc} {f : Fc} {l : List Stp} {s : Stp} {e : Int} (h : hP_ p f l 0) (hs : l[l.length - 1]? = some s) (h3 : hP_ p f [s] e) : (e = 0 ↔ s.frm = []) ∧ s.fact = f := by
  obtain ⟨h1, h2, hS, t, ht, hf⟩ := jb_ h
  rw [hs, Option.some.injEq] at ht
  subst ht
  have hc := hS _ s hs
  refine ⟨?_, hf⟩
  rw [(oI_ h3 h1 (by simp)).1, ← lR_ hc]
  constructor
  · intro q; exact q.1 0 s rfl
  · intro q
    refine ⟨fun j s9 hj => ?_, s, rfl, hf⟩
    match j with
    | 0 => simp only [List.getElem?_cons_zero, Option.some.injEq] at hj; subst hj; exact q
    | j + 1 => simp at hj
theorem checkerCounts_c (p : List Pc) (pad : Option Addr) (pcap : Nat) (hp : p.length ≤ 1099511627744) (hbig : ∀ x ∈ p, x.lim) (f : Fc) (l : List Stp) (ad : Option Addr) (cap : Nat) (hl : l.length ≤ 1256584717424) (hlim : ∀ s ∈ l, s.fact.lim) : Tri Tryz.prog 5 #[.slice pad (List.length p) pcap, Fc.val f, .agg #[.slice ad (List.length l) cap]] [] [aQ_ pad (List.flatMap Pc.cells p), aQ_ ad (List.flatMap Stp.cells l), cz_ l, gX_, fx_] (fun _ : Unit => .bool true) (fun _ => []) (fun _ => []) := by
 refine T_ Tryz.func5 rfl rfl Tryz.ntmps5 rfl fun v0 => ?_
 refine g_ (c_ (aN_ rfl rfl fun b1 => ?_))
 refine aN_ rfl rfl fun b2 => ?_
 refine a_ (e_ rfl) rfl (d_ (b_ rfl (g_ (g_ (c_ (Q_ (ms_) rfl C_ (fun v _ h => by exact ⟨h.2.2.2.1, h.2.2.2.2.1, trivial⟩) rfl fun _ => ?_))))))
 refine a_ (br_ rfl) rfl (d_ (b_ rfl (z_ rfl (J_ (b_ rfl (g_ (g_ (c_ (a_ (f_ rfl) rfl ?_)))))))))
 refine Q_ (nQ_ p pad pcap hp hbig) rfl C_ (fun v _ h => by exact ⟨h.1, trivial⟩) rfl fun ⟨sb, hsb⟩ => ?_
 dsimp only
 refine a_ (br_ rfl) rfl (a_ (f_ rfl) rfl ?_)
 cases sb
 ·
  refine n_ rfl rfl rfl rfl (n_ rfl rfl rfl rfl (n_ rfl rfl rfl rfl (a_ (B_ rfl rfl) rfl (d_ (b_ rfl (x_ rfl (g_ (c_ (a_ (e_ rfl) rfl ?_)))))))))
  refine d_ (b_ rfl (u_ ?_))
  exact Y_ Tryz.results5 () rfl C_ (fun _ _ _ => trivial)
 ·
  obtain ⟨hp60, hsm⟩ := hsb rfl
  refine l_ rfl rfl (a_ (P_ 0 eb_ cb_ rfl rfl rfl) rfl (l_ rfl rfl (Q_ (oA_ l ad cap hl hlim) rfl C_ (fun v _ h => by exact ⟨h.2.1, h.2.2.1, trivial⟩) rfl fun ⟨fw, hfw⟩ => ?_)))
  dsimp only
  refine l_ rfl rfl (a_ (br_ rfl) rfl (a_ (t_ rfl rfl) rfl (d_ (b_ rfl ?_))))
  cases fw
  ·
   refine x_ rfl (g_ (c_ (a_ (e_ rfl) rfl (d_ (b_ rfl (u_ ?_))))))
   exact Y_ Tryz.results5 () rfl C_ (fun _ _ _ => trivial)
  ·
   obtain ⟨hl60, hfew⟩ := hfw rfl
   have hfr : ∀ s ∈ l, s.frm.length ≤ 1000000 := fun s hs => by have := (hfew s hs).1; omega
   have hsml : ∀ s ∈ l, s.fact.sml := fun s hs => (hfew s hs).sml
   refine z_ rfl (J_ (b_ rfl (g_ (g_ (c_ (a_ (f_ rfl) rfl (a_ (P_ 1 R_ k_ rfl rfl rfl) rfl (a_ (P_ 0 eb_ cb_ rfl rfl rfl) rfl (Q_ (fs_ p pad pcap f l ad cap (by omega) hsm (by omega) hfr hsml) rfl C_ (fun v _ h => by exact ⟨h.1, h.2.1, h.2.2.1, h.2.2.2.1, trivial⟩) rfl fun ⟨e1, hC1⟩ => ?_)))))))))
   dsimp only
   try dsimp only at hC1
   refine E_ (bB_ rfl rfl) rfl fun r1 hr1 => ?_
   refine d_ (b_ rfl ?_)
   cases r1
   ·
    replace hr1 := bD_ hr1
    have he1 : e1 = 0 := by omega
    subst he1
    have hS1 := (jb_ hC1).2.2.1
    refine z_ rfl (J_ (b_ rfl (g_ (g_ (c_ (a_ (e_ rfl) rfl (d_ (b_ rfl (ad_ ?_)))))))))
    refine bs_ (ι := {y : Nat // y ≤ List.length l}) (fun y => [(0, .slice pad (List.length p) pcap), (4, zp_ b1 0), (5, zp_ b2 0), (6, .bool false), (7, .int .i64 (y.1 : Int))]) (fun y => ((b2, .cells #[.slice ad (List.length l) cap] 27 (0, 0)) :: ((b1, .cells (Fc.cells f).toArray 24 (0, 0)) :: []))) (fun y => [aQ_ pad (List.flatMap Pc.cells p), aQ_ ad (List.flatMap Stp.cells l), cz_ l, gX_, fx_]) (fun y => List.length l - y.1) ⟨(0 : Nat), by simp⟩ ⟨rfl, rfl, rfl, rfl, rfl, trivial⟩ (N_ D_ D_) (fun _ _ h => h) ?_
    rintro ⟨i, hi_i⟩
    dsimp only at hi_i ⊢
    refine g_ (g_ (c_ (a_ (f_ rfl) rfl (a_ (h_ aa_ rfl rfl rfl am_) rfl (a_ (m_ 0 aT_ rfl rfl rfl) rfl (a_ (ax_ ab_ rfl) rfl (E_ (au_ rfl rfl) rfl fun r2 hr2 => ?_)))))))
    refine d_ (b_ rfl ?_)
    cases r2
    ·
     replace hr2 := of_decide_eq_false hr2
     refine z_ rfl (bg_ rfl (b_ rfl (g_ ?_)))
     obtain ⟨_, _, _, t9, ht9, _⟩ := jb_ hC1
     have hl0 := (List.getElem?_eq_some_iff.1 ht9).1
     have hlx9 : (Int.toNat ((List.length l : Int) - 1)) < List.length l := by omega
     obtain ⟨x9, hx9⟩ : ∃ e0, l[(Int.toNat ((List.length l : Int) - 1))]? = some e0 := ⟨_, List.getElem?_eq_getElem hlx9⟩
     have hmx9 : x9 ∈ l := List.mem_of_getElem? hx9
     have hx9' : l[List.length l - 1]? = some x9 := by rw [← hx9]; congr 1; omega
     refine c_ (a_ (h_ aa_ rfl rfl rfl am_) rfl (a_ (m_ 0 aT_ rfl rfl rfl) rfl (a_ (h_ aa_ rfl rfl rfl am_) rfl (a_ (m_ 0 aT_ rfl rfl rfl) rfl (a_ (ax_ ab_ rfl) rfl (a_ (ac_ rfl rfl rfl (aL_ (by omega) (by omega))) rfl (a_ (ah_ ab_ al_ rfl rfl (fun v _ h => aM_ (n := 9) Stp.cells_len (by decide) (by exact h.2.1) hx9) (by omega) (by first | omega | (simp; done))) rfl (a_ (aK_ (ad := ad) (us := Stp.cells x9) bV_ al_ rfl (fun v _ h => by exact h.2.1) (Stp.cells_len _) (ak_ Stp.cells_len hx9)) rfl (ae_ aS_ rfl fun b3 => ?_)))))))))
     refine X_ 0 al_ rfl rfl rfl rfl rfl rfl (d_ (b_ rfl (g_ (c_ (a_ (f_ rfl) rfl (a_ (P_ 2 R_ k_ rfl rfl rfl) rfl (a_ (P_ 0 bV_ al_ rfl rfl rfl) rfl (aW_ ab_ al_ aS_ rfl rfl rfl rfl rfl rfl fun b4 => ?_))))))))
     refine by_ (List.flatMap Stp.cells [x9]) D_ rfl ?_
     refine a_ (az_ iF_ rfl rfl) rfl (Q_ (fs_ p pad pcap f [x9] (some ⟨b4, 0, none⟩) 1 (by omega) hsm (by first | (simp; done) | (simp; omega)) (fun s hs => hfr s (by rw [List.mem_singleton] at hs; subst hs; assumption)) (fun s hs => hsml s (by rw [List.mem_singleton] at hs; subst hs; assumption))) rfl C_ (fun v _ h => by exact ⟨h.2.1, h.1, (lr_ h.2.2.2.1 (fun x hx => by rw [List.mem_singleton] at hx; subst hx; exact hmx9)), h.2.2.2.2.1, trivial⟩) rfl fun ⟨e2, hC2⟩ => ?_)
     dsimp only
     try dsimp only at hC2
     refine a_ (e_ rfl) rfl (d_ (b_ rfl (g_ (c_ (a_ (f_ rfl) rfl (E_ (aB_ rfl rfl) rfl fun r3 hr3 => ?_))))))
     refine a_ (h_ K_ rfl rfl rfl aZ_) rfl (a_ (m_ 0 bA_ rfl rfl rfl) rfl (a_ (ax_ ao_ rfl) rfl (E_ (aB_ rfl rfl) rfl fun r4 hr4 => ?_)))
     refine E_ (md_ Tryz.underlying4 rfl rfl) rfl fun r5 hr5 => ?_
     refine a_ (f_ rfl) rfl ?_
     cases r5
     ·
      exfalso; have z := iy_ hC1 hx9' hC2; rw [← hr3, ← hr4] at hr5; have w : ((List.length (Stp.frm x9) : Int) = 0) ↔ Stp.frm x9 = [] := ⟨fun q => List.eq_nil_of_length_eq_zero (by omega), fun q => by rw [q]; rfl⟩; rw [Bool.eq_false_iff] at hr5; apply hr5; rw [beq_iff_eq, Bool.eq_iff_iff, beq_iff_eq, beq_iff_eq, w]; exact z.1
     ·
      refine l_ rfl rfl (a_ (h_ K_ rfl rfl rfl k_) rfl (l_ rfl rfl (a_ (P_ 0 R_ k_ rfl rfl rfl) rfl (l_ rfl rfl (a_ (P_ 2 R_ k_ rfl rfl rfl) rfl (l_ rfl rfl (E_ (aq_ (p := (Stp.fact x9)) (q := f) rfl rfl) rfl fun r6 hr6 => ?_)))))))
      refine a_ (B_ rfl rfl) rfl (a_ (e_ rfl) rfl (d_ (b_ rfl (u_ ?_))))
      exact Y_ Tryz.results5 () (s_ rfl (by rw [← hr6]; exact decide_eq_true (iy_ hC1 hx9' hC2).2)) C_ (fun _ _ _ => trivial)
    ·
     replace hr2 := of_decide_eq_true hr2
     have hlx1 : i < List.length l := by omega
     obtain ⟨x1, hx1⟩ : ∃ e0, l[i]? = some e0 := ⟨_, List.getElem?_eq_getElem hlx1⟩
     have hmx1 : x1 ∈ l := List.mem_of_getElem? hx1
     obtain ⟨hq1, hq2, hq3, hq4, hq5, hq6⟩ := hF_ (hS1 i x1 hx1)
     simp only [dm_, List.length_take] at hq6
     refine x_ rfl (J_ (b_ rfl (g_ (ad_ (g_ (c_ (a_ (h_ aa_ rfl rfl rfl am_) rfl (a_ (m_ 0 aT_ rfl rfl rfl) rfl (a_ (f_ rfl) rfl ?_)))))))))
     refine a_ (ah_ ab_ al_ rfl rfl (fun v _ h => aM_ (n := 9) Stp.cells_len (by decide) (by exact h.2.1) hx1) (by omega) (by first | omega | (simp; done))) rfl (a_ (aK_ (ad := ad) (us := Stp.cells x1) bV_ al_ rfl (fun v _ h => by exact h.2.1) (Stp.cells_len _) (ak_ Stp.cells_len hx1)) rfl (ae_ aS_ rfl fun b5 => ?_))
     refine X_ 0 al_ rfl rfl rfl rfl rfl rfl (d_ (b_ rfl (g_ (g_ (c_ (a_ (h_ K_ rfl rfl rfl r_) rfl (a_ (m_ 0 y_ rfl rfl rfl) rfl (E_ (au_ rfl rfl) rfl fun r7 hr7 => ?_))))))))
     refine a_ (f_ rfl) rfl ?_
     cases r7
     ·
      replace hr7 := of_decide_eq_false hr7
      refine l_ rfl rfl (a_ (h_ K_ rfl rfl rfl r_) rfl (l_ rfl rfl (a_ (m_ 0 y_ rfl rfl rfl) rfl (l_ rfl rfl (E_ (bv_ rfl rfl) rfl fun r8 hr8 => ?_)))))
      refine a_ (t_ rfl rfl) rfl (a_ (f_ rfl) rfl ?_)
      cases r8
      ·
       replace hr8 := of_decide_eq_false hr8
       refine l_ rfl rfl (a_ (h_ K_ rfl rfl rfl r_) rfl (l_ rfl rfl (a_ (m_ 0 y_ rfl rfl rfl) rfl (l_ rfl rfl (E_ (au_ rfl rfl) rfl fun r9 hr9 => ?_)))))
       refine a_ (t_ rfl rfl) rfl (a_ (f_ rfl) rfl ?_)
       cases r9
       ·
        replace hr9 := of_decide_eq_false hr9
        refine l_ rfl rfl (a_ (h_ K_ rfl rfl rfl r_) rfl (l_ rfl rfl (a_ (m_ 0 y_ rfl rfl rfl) rfl (l_ rfl rfl (a_ (f_ rfl) rfl (l_ rfl rfl (a_ (ax_ aV_ rfl) rfl (l_ rfl rfl (E_ (bY_ rfl rfl) rfl fun r10 hr10 => ?_)))))))))
        refine a_ (t_ rfl rfl) rfl (a_ (f_ rfl) rfl ?_)
        cases r10
        ·
         replace hr10 := of_decide_eq_false hr10
         refine l_ rfl rfl (a_ (h_ K_ rfl rfl rfl aZ_) rfl (l_ rfl rfl (a_ (m_ 0 bA_ rfl rfl rfl) rfl (l_ rfl rfl (a_ (ax_ ao_ rfl) rfl (l_ rfl rfl (E_ (bv_ rfl rfl) rfl fun r11 hr11 => ?_)))))))
         refine a_ (t_ rfl rfl) rfl (d_ (b_ rfl ?_))
         cases r11
         ·
          replace hr11 := of_decide_eq_false hr11
          refine z_ rfl (J_ (b_ rfl (g_ (c_ (a_ (e_ rfl) rfl (d_ (b_ rfl (ad_ ?_))))))))
          refine bs_ (ι := {y : Nat // y ≤ List.length (Stp.frm x1)}) (fun y => [(0, .slice pad (List.length p) pcap), (4, zp_ b1 0), (5, zp_ b2 0), (6, .bool false), (7, .int .i64 (i : Int)), (8, zp_ b5 0), (9, .int .i64 (y.1 : Int))]) (fun y => ((b5, .cells #[.int .i64 (Stp.rule x1), .int .i64 (Fc.kind (Stp.fact x1)), str (Fc.a (Stp.fact x1)), str (Fc.b (Stp.fact x1)), str (Fc.r (Stp.fact x1)), .int .i64 (Fc.lo (Stp.fact x1)), .int .i64 (Fc.hi (Stp.fact x1)), .int .i64 (Stp.piece x1), .slice (Stp.ad x1) (List.length (Stp.frm x1)) (Stp.cap x1)] 36 (0, 0)) :: ((b2, .cells #[.slice ad (List.length l) cap] 27 (0, 0)) :: ((b1, .cells (Fc.cells f).toArray 24 (0, 0)) :: [])))) (fun y => [aQ_ pad (List.flatMap Pc.cells p), aQ_ ad (List.flatMap Stp.cells l), cz_ l, gX_, fx_]) (fun y => List.length (Stp.frm x1) - y.1) ⟨(0 : Nat), by simp⟩ ⟨rfl, rfl, rfl, rfl, rfl, rfl, rfl, trivial⟩ (N_ D_ (N_ D_ D_)) (fun _ _ h => h) ?_
          rintro ⟨j, hi_j⟩
          dsimp only at hi_j ⊢
          refine g_ (g_ (c_ (a_ (f_ rfl) rfl (a_ (h_ K_ rfl rfl rfl aZ_) rfl (a_ (m_ 0 bA_ rfl rfl rfl) rfl (a_ (ax_ ao_ rfl) rfl (E_ (au_ rfl rfl) rfl fun r12 hr12 => ?_)))))))
          refine d_ (b_ rfl ?_)
          cases r12
          ·
           replace hr12 := of_decide_eq_false hr12
           refine z_ rfl (bg_ rfl (b_ rfl (c_ (a_ (f_ rfl) rfl (a_ (ac_ rfl rfl rfl (aL_ (by omega) (by omega))) rfl (a_ (e_ rfl) rfl (d_ (q_ rfl ?_))))))))
           exact aO_ ⟨i + 1, hlx1⟩ (by dsimp only; omega) ⟨rfl, rfl, rfl, rfl, rfl, trivial⟩ (N_ (H_ D_) (H_ D_)) (fun _ _ h => h)
          ·
           replace hr12 := of_decide_eq_true hr12
           have hlx2 : j < List.length (Stp.frm x1) := by omega
           obtain ⟨x2, hx2⟩ : ∃ e0, (Stp.frm x1)[j]? = some e0 := ⟨_, List.getElem?_eq_getElem hlx2⟩
           have hmx2 : x2 ∈ (Stp.frm x1) := List.mem_of_getElem? hx2
           refine x_ rfl (J_ (b_ rfl (g_ (ad_ (g_ (c_ (a_ (h_ K_ rfl rfl rfl aZ_) rfl (a_ (m_ 0 bA_ rfl rfl rfl) rfl (a_ (f_ rfl) rfl ?_)))))))))
           refine a_ (ah_ ao_ r_ rfl rfl (fun v _ h => aM_ (n := 1) co_ (by decide) (by exact (h.2.2.1 x1 hmx1)) hx2) (by omega) (by first | omega | (simp; done))) rfl (a_ (be_ (ad := (Stp.ad x1)) y_ rfl (fun v _ h => by exact (h.2.2.1 x1 hmx1)) (ak_ co_ hx2 0 _ rfl)) rfl (E_ (au_ rfl rfl) rfl fun r13 hr13 => ?_))
           refine a_ (f_ rfl) rfl ?_
           cases r13
           ·
            replace hr13 := of_decide_eq_false hr13
            refine l_ rfl rfl (a_ (h_ K_ rfl rfl rfl aZ_) rfl (l_ rfl rfl (a_ (m_ 0 bA_ rfl rfl rfl) rfl (l_ rfl rfl (a_ (f_ rfl) rfl (l_ rfl rfl (a_ (ah_ ao_ r_ rfl rfl (fun v _ h => aM_ (n := 1) co_ (by decide) (by exact (h.2.2.1 x1 hmx1)) hx2) (by omega) (by first | omega | (simp; done))) rfl (l_ rfl rfl (a_ (be_ (ad := (Stp.ad x1)) y_ rfl (fun v _ h => by exact (h.2.2.1 x1 hmx1)) (ak_ co_ hx2 0 _ rfl)) rfl ?_)))))))))
            refine l_ rfl rfl (a_ (f_ rfl) rfl (l_ rfl rfl (E_ (bY_ rfl rfl) rfl fun r14 hr14 => ?_)))
            refine a_ (t_ rfl rfl) rfl (d_ (b_ rfl ?_))
            cases r14
            ·
             replace hr14 := of_decide_eq_false hr14
             refine z_ rfl (J_ (b_ rfl (c_ (a_ (f_ rfl) rfl (a_ (ac_ rfl rfl rfl (aL_ (by omega) (by omega))) rfl (a_ (e_ rfl) rfl (d_ (q_ rfl ?_))))))))
             exact aO_ ⟨j + 1, hlx2⟩ (by dsimp only; omega) ⟨rfl, rfl, rfl, rfl, rfl, rfl, rfl, trivial⟩ (N_ D_ (N_ D_ D_)) (fun _ _ h => h)
            ·
             replace hr14 := of_decide_eq_true hr14
             exfalso; have z := hq6 x2 hmx2; omega
           ·
            replace hr13 := of_decide_eq_true hr13
            exfalso; have z := hq6 x2 hmx2; omega
         ·
          replace hr11 := of_decide_eq_true hr11
          exfalso; omega
        ·
         replace hr10 := of_decide_eq_true hr10
         exfalso; omega
       ·
        replace hr9 := of_decide_eq_true hr9
        exfalso; omega
      ·
       replace hr8 := of_decide_eq_true hr8
       exfalso; omega
     ·
      replace hr7 := of_decide_eq_true hr7
      exfalso; omega
   ·
    replace hr1 := bC_ hr1
    refine x_ rfl (g_ (c_ (a_ (e_ rfl) rfl (d_ (b_ rfl (u_ ?_))))))
    exact Y_ Tryz.results5 () rfl C_ (fun _ _ _ => trivial)
end Go.Proofs.YtaffcjgphlhppaaGreatDoor
namespace Go.Proofs.YtaffcjgphlhppaaGreatDoor
open Go Go.Sx Go.Proofs
attribute [local irreducible] Code.wp wpList wpAnyH
open Go.Vs Go.ChangeShapes Go.WideShapes Go.ChangeAt Go.RowKit
structure TysR (P : Program) (tI tS tF tIs tX tXs tQ tU tUs : TypeId) : Prop where
  f : ∃ fs, P.underlying tF = some (.struct fs) ∧ fs.toList.map (fun f => (f.type, f.offset)) = [(tI, 0), (tS, 1), (tS, 2), (tS, 3), (tI, 4), (tI, 5)]
  cf : P.cellsOf tF = 6
  x : ∃ fs, P.underlying tX = some (.struct fs) ∧ fs.toList.map (fun f => (f.type, f.offset)) = [(tI, 0), (tF, 1), (tI, 7), (tIs, 8)]
  xs : P.underlying tXs = some (.slice tX)
  is : P.underlying tIs = some (.slice tI)
  q : ∃ fs, P.underlying tQ = some (.struct fs) ∧ fs.toList.map (fun f => (f.type, f.offset)) = [(tXs, 0)]
  u : P.underlying tU = some (.int .u8)
  us : P.underlying tUs = some (.slice tU)
  cis : P.cellsOf tIs = 1
  cx : P.cellsOf tX = 9
  cxs : P.cellsOf tXs = 1
  cq : P.cellsOf tQ = 1
  cu : P.cellsOf tU = 1
  bi : P.bytesOf tI = 8
  bx : P.bytesOf tX = 112
  bu : P.bytesOf tU = 1
structure frd (f : Fc) : Prop where
  lim : f.lim
  lo : I64 f.lo
  hi : I64 f.hi
structure srd (W : World) (s : Stp) : Prop where
  row : bF_ (vw W) s.ad (s.frm.flatMap cU_)
  fact : frd s.fact
  le : s.frm.length ≤ s.cap
  mx : s.cap ≤ 17592186044416
section
variable {H : Type} {enc : TypeId × Value → H} {P : Program} {W : World} {tI tB tS tSs tC tCs tA tAs tP tPs tF tIs tX tXs tQ tU tUs : TypeId} (X : Tys P tI tB tS tSs tC tCs tA tAs tP tPs) (Y : TysR P tI tS tF tIs tX tXs tQ tU tUs)
include X Y
theorem mz_ {n : Nat} {cs : List Value} {x : DataW H × List MemPlace} (h : DataW.trod enc P W 0 (fun _ => true) true n tF cs = some x) (hw : wok (x.1.weights P tF)) : ∃ f : Fc, cs = f.cells ∧ frd f := by
  obtain ⟨fs, hu, hL⟩ := Y.f
  obtain ⟨xs, m, hn, hx, hl, hlen, hf, hwe⟩ := fields_of hu hL h
  rw [hwe] at hw
  match xs, hlen with
  | [x0, x1, x2, x3, x4, x5], _ =>
  simp only [List.map_cons, List.map_nil, DataW.weightsEach, dc_] at hw
  have f0 := hf 0 _ rfl; have f1 := hf 1 _ rfl; have f2 := hf 2 _ rfl; have f3 := hf 3 _ rfl; have f4 := hf 4 _ rfl; have f5 := hf 5 _ rfl
  simp only [List.getElem?_cons_zero, List.getElem?_cons_succ, X.ci, X.cs1] at f0 f1 f2 f3 f4 f5
  obtain ⟨k, e0, _, _⟩ := ek_ X f0
  obtain ⟨a, e1, n1⟩ := Go.Vs.str_of X f1 hw.2.1
  obtain ⟨b, e2, n2⟩ := Go.Vs.str_of X f2 hw.2.2.1
  obtain ⟨r, e3, n3⟩ := Go.Vs.str_of X f3 hw.2.2.2.1
  obtain ⟨lo, e4, l1, l2⟩ := ek_ X f4
  obtain ⟨hi, e5, l3, l4⟩ := ek_ X f5
  rw [Y.cf] at hl
  match cs, hl with
  | [c0, c1, c2, c3, c4, c5], _ =>
  simp only [List.drop_succ_cons, List.drop_zero, List.take_succ_cons, List.take_zero, List.cons.injEq, and_true] at e0 e1 e2 e3 e4 e5
  subst e0 e1 e2 e3 e4 e5
  exact ⟨⟨k, a, b, r, lo, hi⟩, rfl, ⟨n1, n2, n3⟩, ⟨l1, l2⟩, ⟨l3, l4⟩⟩
theorem my_ {n : Nat} {cs : List Value} {x : DataW H × List MemPlace} (h : DataW.trod enc P W 0 (fun _ => true) true n tIs cs = some x) (hw : wok (x.1.weights P tIs)) :
    ∃ (l : List Int) (ad : Option Addr) (cap : Nat), cs = [.slice ad l.length cap] ∧ bF_ (vw W) ad (l.flatMap cU_) ∧ l.length ≤ cap ∧ cap ≤ 17592186044416 := by
  obtain ⟨l, ad, cap, e, hrow, hq, hlc, hcap⟩ := iJ_ cU_ 1 co_ (by decide) (fun y : Int => -9223372036854775808 ≤ y ∧ y ≤ 9223372036854775807) Y.is X.ci (fun m' _ cs' y hy _ => ek_ X hy) h hw
  rw [Y.bi] at hcap; simp only [reachBytes] at hcap
  exact ⟨l, ad, cap, e, hrow, hlc, by omega⟩
theorem nS_ {n : Nat} {cs : List Value} {x : DataW H × List MemPlace} (h : DataW.trod enc P W 0 (fun _ => true) true n tX cs = some x) (hw : wok (x.1.weights P tX)) : ∃ s : Stp, cs = s.cells ∧ srd W s := by
  obtain ⟨fs, hu, hL⟩ := Y.x
  obtain ⟨xs, m, hn, hx, hl, hlen, hf, hwe⟩ := fields_of hu hL h
  rw [hwe] at hw
  match xs, hlen with
  | [x0, x1, x2, x3], _ =>
  simp only [List.map_cons, List.map_nil, DataW.weightsEach, dc_] at hw
  have f0 := hf 0 _ rfl; have f1 := hf 1 _ rfl; have f2 := hf 2 _ rfl; have f3 := hf 3 _ rfl
  simp only [List.getElem?_cons_zero, List.getElem?_cons_succ, X.ci, Y.cf, Y.cis] at f0 f1 f2 f3
  obtain ⟨k, e0, _, _⟩ := ek_ X f0
  obtain ⟨f, e1, bf⟩ := mz_ X Y f1 hw.2.1
  obtain ⟨pc, e2, _, _⟩ := ek_ X f2
  obtain ⟨l, ad, cap, e3, r3, l3, m3⟩ := my_ X Y f3 hw.2.2.2.1
  rw [Y.cx] at hl
  match cs, hl with
  | [c0, c1, c2, c3, c4, c5, c6, c7, c8], _ =>
  simp only [List.drop_succ_cons, List.drop_zero, List.take_succ_cons, List.take_zero, List.cons.injEq, and_true, Fc.cells] at e0 e1 e2 e3
  refine ⟨⟨k, f, pc, ad, cap, l⟩, ?_, r3, bf, l3, m3⟩
  obtain ⟨a1, a2, a3, a4, a5, a6⟩ := e1
  rw [e0, a1, a2, a3, a4, a5, a6, e2, e3]; rfl
theorem mx_ {n : Nat} {cs : List Value} {x : DataW H × List MemPlace} (h : DataW.trod enc P W 0 (fun _ => true) true n tXs cs = some x) (hw : wok (x.1.weights P tXs)) :
    ∃ (l : List Stp) (ad : Option Addr) (cap : Nat), cs = [.slice ad l.length cap] ∧ bF_ (vw W) ad (l.flatMap Stp.cells) ∧ (∀ y ∈ l, srd W y) ∧ l.length ≤ cap ∧ cap ≤ 1256584717424 := by
  have : Inhabited Stp := ⟨⟨0, zfc, 0, none, 0, []⟩⟩
  obtain ⟨l, ad, cap, e, hrow, hq, hlc, hcap⟩ := iJ_ Stp.cells 9 Stp.cells_len (by decide) (srd W) Y.xs Y.cx (fun m' _ cs' y hy hwy => nS_ X Y hy hwy) h hw
  rw [Y.bx] at hcap; simp only [reachBytes] at hcap
  exact ⟨l, ad, cap, e, hrow, hq, hlc, by omega⟩
variable {base : Nat} {v : Value} {d : DataW H} {ps : List MemPlace}
theorem arg_fc (hval : Value.okWide P W .any base tF v) (h : DataW.Trod enc P W 0 (fun _ => true) true tF v d ps) (hw : wok (d.weights P tF)) : ∃ f : Fc, v = f.val ∧ frd f := by
  obtain ⟨fs, hu, _⟩ := Y.f
  unfold Value.okWide at hval
  rw [hu] at hval
  obtain ⟨cs, rfl, _⟩ := hval
  obtain ⟨n, hn⟩ := h
  obtain ⟨f, e, h1⟩ := mz_ X Y hn hw
  refine ⟨f, ?_, h1⟩
  simp only [Value.cells] at e
  rw [Fc.val, ← e]
theorem oM_ (hval : Value.okWide P W .any base tQ v) (h : DataW.Trod enc P W 0 (fun _ => true) true tQ v d ps) (hw : wok (d.weights P tQ)) :
    ∃ (l : List Stp) (ad : Option Addr) (cap : Nat), v = .agg #[.slice ad l.length cap] ∧ bF_ (vw W) ad (l.flatMap Stp.cells) ∧ (∀ y ∈ l, srd W y) ∧ l.length ≤ cap ∧ cap ≤ 1256584717424 := by
  obtain ⟨fs, hu, hL⟩ := Y.q
  unfold Value.okWide at hval
  rw [hu] at hval
  obtain ⟨cs, rfl, _⟩ := hval
  obtain ⟨n, hn⟩ := h
  simp only [Value.cells] at hn
  obtain ⟨xs, m, hn2, hx, hl, hlen, hf, hwe⟩ := fields_of hu hL hn
  rw [hwe] at hw
  match xs, hlen with
  | [x0], _ =>
  simp only [List.map_cons, List.map_nil, DataW.weightsEach, dc_] at hw
  have f0 := hf 0 _ rfl
  simp only [List.getElem?_cons_zero, Y.cxs] at f0
  obtain ⟨l, ad, cap, e0, h1⟩ := mx_ X Y f0 hw.1
  rw [Y.cq] at hl
  refine ⟨l, ad, cap, ?_, h1⟩
  rw [List.drop_zero, List.take_of_length_le (by omega)] at e0
  rw [← e0]
end
theorem mp_ {H : Type} {enc : TypeId × Value → H} {P : Program} {W : World} {ts te : TypeId} (hs : P.underlying ts = some (.slice te)) {n : Nat} {ad : Option Addr} {len cap : Nat} {x : DataW H × List MemPlace} (h : DataW.trod enc P W 0 (fun _ => true) true n ts [.slice ad len cap] = some x) : ad = none → cap = 0 := by
  intro e
  subst e
  rcases DataW.trod_slice hs h with ⟨h0, _⟩ | ⟨a, l, c, elems, rest, m, hn, h0, _⟩
  · cases h0; rfl
  · cases h0
section
variable {H : Type} {enc : TypeId × Value → H} {P : Program} {W : World} {tI tB tS tSs tC tCs tA tAs tP tPs : TypeId} (X : Tys P tI tB tS tSs tC tCs tA tAs tP tPs) {base : Nat} {v : Value} {d : DataW H} {ps : List MemPlace}
include X
theorem oN_ (hval : Value.okWide P W .any base tPs v) (h : DataW.Trod enc P W 0 (fun _ => true) true tPs v d ps) (hw : wok (d.weights P tPs)) :
    ∃ (l : List Pc) (ad : Option Addr) (cap : Nat), v = .slice ad l.length cap ∧ bF_ (vw W) ad (l.flatMap Pc.cells) ∧ (∀ y ∈ l, y.lim) ∧ l.length ≤ cap ∧ cap ≤ 1099511627744 ∧ (ad = none → cap = 0) := by
  obtain ⟨a, len, cap, rfl⟩ := okWide_slice X.ps hval
  obtain ⟨n, hn⟩ := h
  obtain ⟨l, ad, cap', e, h1, h2, h3, h4⟩ := pcs_of X hn hw
  have z := mp_ X.ps (e ▸ hn)
  simp only [Value.cells, List.cons.injEq, and_true] at e
  exact ⟨l, ad, cap', e, h1, fun y hy => by obtain ⟨q1, q2, q3, q4, q5, q6⟩ := h2 y hy; exact ⟨q1, q2, q3, q4, q5, q6⟩, h3, h4, z⟩
end
end Go.Proofs.YtaffcjgphlhppaaGreatDoor
namespace Go.Proofs.YtaffcjgphlhppaaGreatDoor
open Go Go.Sx Go.Proofs
attribute [local irreducible] Code.wp wpList wpAnyH
open Go.Vs Go.ChangeShapes Go.WideShapes Go.ChangeAt Go.RowKit
theorem own : ownKnob Tryz.prog.godebug = none := by kernel_rfl
def ef_ : List (String × DataW Unit) := [("math/bits.deBruijn32tab", Rows.laid_math_bits_deBruijn32tab), ("math/bits.deBruijn64tab", Rows.laid_math_bits_deBruijn64tab), ("internal/strconv.uint64pow10", Rows.laid_internal_strconv_uint64pow10), ("unicode/utf8.acceptRanges", Rows.laid_unicode_utf8_acceptRanges), ("veilstone/terms.needs", Rows.laid_veilstone_terms_needs), ("veilstone/terms.uses", Rows.laid_veilstone_terms_uses), ("veilstone/normal.uses", Rows.laid_veilstone_normal_uses), ("unicode/utf8.first", Rows.laid_unicode_utf8_first)]
theorem mW_ : Kids Tryz.prog (· < Tryz.prog.types.size) := kids_rows (by kernel_rfl) (by kernel_rfl)
theorem full : ∀ t e, t < Tryz.prog.types.size → Tryz.prog.underlying t = some (.slice e) → 0 < Tryz.prog.cellsOf e := slices_full_of _ (by kernel_rfl)
theorem ht_ : Tryz.prog.types.size = 305 := by kernel_rfl
theorem tysX : Tys Tryz.prog 3 4 9 46 56 54 58 53 73 22 where
  i := cN_
  b := Tryz.underlying4
  s := dh_
  ss := Tryz.underlying46
  c := ⟨_, Tryz.underlying56, rfl⟩
  cs := Tryz.underlying54
  a := ⟨_, Tryz.underlying58, rfl⟩
  axs := Tryz.underlying53
  p := ⟨_, Tryz.underlying73, rfl⟩
  ps := Tryz.underlying22
  ci := by kernel_rfl
  cb := by kernel_rfl
  cs1 := by kernel_rfl
  css := by kernel_rfl
  cc := by kernel_rfl
  ccs := by kernel_rfl
  ca := by kernel_rfl
  cp := by kernel_rfl
  bs := by kernel_rfl
  bc := by kernel_rfl
  ba := by kernel_rfl
  bp := by kernel_rfl
theorem gH_ {W : World} (h : laidMetH Tryz.prog ef_ W) : ∃ T fz, W.heap[2]? = some (.cells (du_ (H := Unit) Rows.laid_veilstone_terms_needs).toArray T fz) := by
  rw [MakeChecks.laidMetH_plain _ _ _ (by kernel_rfl)] at h
  exact fM_ mW_ (name := "veilstone/terms.needs") h (by simp [ef_]) (g := 2) (t := 216) (by kernel_rfl) (by kernel_rfl) (by rw [ht_]; decide) (m := 4) (by kernel_rfl)
theorem gW_ {W : World} (h : laidMetH Tryz.prog ef_ W) : ∃ T fz, W.heap[0]? = some (.cells (du_ (H := Unit) Rows.laid_veilstone_terms_uses).toArray T fz) := by
  rw [MakeChecks.laidMetH_plain _ _ _ (by kernel_rfl)] at h
  exact fM_ mW_ (name := "veilstone/terms.uses") h (by simp [ef_]) (g := 0) (t := 136) (by kernel_rfl) (by kernel_rfl) (by rw [ht_]; decide) (m := 4) (by kernel_rfl)
theorem gI_ {W : World} (h : laidMetH Tryz.prog ef_ W) : ∃ T fz, W.heap[1]? = some (.cells (du_ (H := Unit) Rows.laid_veilstone_normal_uses).toArray T fz) := by
  rw [MakeChecks.laidMetH_plain _ _ _ (by kernel_rfl)] at h
  exact fM_ mW_ (name := "veilstone/normal.uses") h (by simp [ef_]) (g := 1) (t := 151) (by kernel_rfl) (by kernel_rfl) (by rw [ht_]; decide) (m := 4) (by kernel_rfl)
theorem eo_ {W : World} (h : laidMetH Tryz.prog ef_ W) : ∃ T fz, W.heap[6]? = some (.cells (du_ (H := Unit) Rows.laid_internal_strconv_uint64pow10).toArray T fz) := by
  rw [MakeChecks.laidMetH_plain _ _ _ (by kernel_rfl)] at h
  exact fM_ mW_ (name := "internal/strconv.uint64pow10") h (by simp [ef_]) (g := 6) (t := 289) (by kernel_rfl) (by kernel_rfl) (by rw [ht_]; decide) (m := 4) (by kernel_rfl)
theorem iK_ {W : World} {g : Nat} {l : List Value} {d : List Value} (h : ∃ T fz, W.heap[g]? = some (.cells l.toArray T fz)) (e : l = d) : bF_ (vw W) (some ⟨g, 0, none⟩) d := by
  obtain ⟨T, fz, h⟩ := h
  subst e
  exact .inr ⟨g, 0, _, T, fz, rfl, (Array.getElem?_eq_some_iff.1 h).1, h, fun j x hj => by rw [Nat.zero_add]; simpa using hj⟩
theorem kP_ {W : World} (h : laidMetH Tryz.prog ef_ W) : fx_.p (vw W) := by
  refine ⟨iK_ (gH_ h) (by kernel_rfl), iK_ (gW_ h) (by kernel_rfl), iK_ (gI_ h) (by kernel_rfl), ?_⟩
  obtain ⟨T, fz, h2⟩ := eo_ h
  refine ⟨trivial, (Array.getElem?_eq_some_iff.1 h2).1, T, fz, ?_⟩
  rw [show (Lib.pow10Tab.map fun z => Value.int .u64 z) = du_ (H := Unit) Rows.laid_internal_strconv_uint64pow10 by kernel_rfl]
  exact h2
theorem nI_ {W : World} (h : laidMetH Tryz.prog ef_ W) : gX_.p (vw W) := (kP_ h).2.2.1
theorem tysR : TysR Tryz.prog 3 9 24 34 36 25 27 5 39 where
  f := ⟨_, Tryz.underlying24, rfl⟩
  cf := by kernel_rfl
  x := ⟨_, Tryz.underlying36, rfl⟩
  xs := Tryz.underlying25
  is := Tryz.underlying34
  q := ⟨_, Tryz.underlying27, rfl⟩
  u := jm_
  us := hT_
  cis := by kernel_rfl
  cx := by kernel_rfl
  cxs := by kernel_rfl
  cq := by kernel_rfl
  cu := by kernel_rfl
  bi := by kernel_rfl
  bx := by kernel_rfl
  bu := by kernel_rfl
end Go.Proofs.YtaffcjgphlhppaaGreatDoor
namespace Go.Proofs.YtaffcjgphlhppaaGreatDoor
open Go Go.Sx Go.Proofs
attribute [local irreducible] Code.wp wpList wpAnyH
open Go.Vs
structure NewE where
  g : Nat
  pb : Nat
  kb : Nat
  ab : Nat
  ub : Nat
  ob : Nat
  ib : Nat
  rb : Nat
  sb : Nat
  fb : Nat
  lv : Value
  hm : Hp
  hl : Hp
def NewE.ok (ps : List Pc) (y : NewE) : Prop := hO_ Ky.val Pc.cells 73 10 (pmOf ps) y.pb y.hm ∧ bu_ 9 1 y.lv (List.length (la_ ps)) (List.flatMap cX_ (la_ ps)) y.hl
def NewE.own (y : NewE) : Hp := (y.g, .cells #[.map (some y.pb), y.lv, .map (some y.kb), .nilFunc, .map (some y.ab), .map (some y.ub), .map (some y.ob), .map (some y.ib), .map (some y.rb), .map (some y.sb), .map (some y.fb)] 111 (0, 0)) :: (y.kb, .map #[] 0) :: (y.ab, .map #[] 0) :: (y.ub, .map #[] 0) :: (y.ob, .map #[] 0) :: (y.ib, .map #[] 0) :: (y.rb, .map #[] 0) :: (y.sb, .map #[] 0) :: (y.fb, .map #[] 0) :: (y.hm ++ y.hl)
end Go.Proofs.YtaffcjgphlhppaaGreatDoor
