/-
  Part of the proof of the law CheckerBytes over this seat: the small logic, the data, the contracts of functions (no condition).
-/
import Derived.Test.YtaffcjgphlhppaaGreatDoorQCheckerBytes11
import Derived.Test.YtaffcjgphlhppaaGreatDoorQCheckerBytes7
import Derived.Test.YtaffcjgphlhppaaGreatDoorQCheckerBytes3
set_option linter.unusedVariables false
set_option linter.unusedSimpArgs false
set_option linter.unusedSectionVars false
namespace Go.Proofs.YtaffcjgphlhppaaGreatDoor
open Go Go.Sx Go.Proofs
attribute [local irreducible] Code.wp wpList wpAnyH
open Go.Vs
theorem lk_ {α : Type} {l : List α} {i : Nat} {x : α} {P : α → Prop} (h : ∀ z ∈ List.take i l, P z) (hx : l[i]? = some x) (hp : P x) : ∀ z ∈ List.take (i + 1) l, P z := fun z hz => by
  rw [List.take_add_one, hx] at hz
  rcases List.mem_append.1 hz with hz | hz
  · exact h z hz
  · simp only [Option.toList_some, List.mem_singleton] at hz; subst hz; exact hp
theorem ih_ (a b : Str) : Fn0 Tryz.prog 29 #[str a, str b] (Fc.val (aL_ a b)) := by
  refine S_ Tryz.func29 rfl rfl Tryz.ntmps29 rfl fun v0 => ?_
  refine g_ (c_ (Z_ bl_ rfl fun b1 => ?_))
  refine d_ (b_ rfl (g_ (c_ (a_ (f_ rfl) rfl (a_ (f_ rfl) rfl (a_ (ax_ gc_ rfl rfl) rfl (Q_ 0 l_ rfl rfl rfl rfl rfl rfl (d_ (b_ rfl ?_)))))))))
  refine u_ ?_
  exact et_ () (fun aa v h1 h2 => cG_ (us := Fc.cells (aL_ a b)) 0 Tryz.results29 U_ l_ rfl rfl rfl aa v h1 h2) x_ (fun _ _ _ => trivial)
theorem iZ_ (a r b : Str) : Fn0 Tryz.prog 28 #[str a, str r, str b] (Fc.val (bI_ a r b)) := by
  refine S_ Tryz.func28 rfl rfl Tryz.ntmps28 rfl fun v0 => ?_
  refine g_ (c_ (Z_ bl_ rfl fun b1 => ?_))
  refine d_ (b_ rfl (g_ (c_ (a_ (f_ rfl) rfl (a_ (f_ rfl) rfl (a_ (f_ rfl) rfl (a_ (ax_ gc_ rfl rfl) rfl (Q_ 0 l_ rfl rfl rfl rfl rfl rfl (d_ ?_)))))))))
  refine b_ rfl (u_ ?_)
  exact et_ () (fun aa v h1 h2 => cG_ (us := Fc.cells (bI_ a r b)) 0 Tryz.results28 U_ l_ rfl rfl rfl aa v h1 h2) x_ (fun _ _ _ => trivial)
theorem lt_ : gH_ Tryz.prog 36 [(0, 1), (1, 6), (7, 1), (8, 1)] [.int .i64 0, .int .i64 0, str [], str [], str [], .int .i64 0, .int .i64 0, .int .i64 0, .slice none 0 0] := ⟨_, bb_, G_, fun w => by simp [q_, l_, bc_]⟩
theorem go_ (k : Int) (f : Fc) (l : List Int) (fad : Option Addr) (fcap : Nat) (fs : List Fc) (gad : Option Addr) (gcap : Nat) (w : Int) (hfl : fs.length ≤ 10000000) (hfr : l.length ≤ 1000000) (hfs : ∀ x ∈ fs, x.sml) (hsf : f.sml) (hw : (if dN_ [] fs (Stp.mk k f (-1) none 0 l) = true then 0 else 120) = w) : Tri Tryz.prog 30 #[.int .i64 k, Fc.val f, .slice fad (List.length l) fcap, .slice gad (List.length fs) gcap, .int .i64 w] [] [aY_ fad (List.flatMap dg_ l), aY_ gad (List.flatMap Fc.cells fs), jx_] (fun _ : Unit => .bool true) (fun _ => []) (fun _ => []) := by
  refine S_ Tryz.func30 rfl rfl Tryz.ntmps30 rfl fun v0 => ?_
  refine g_ (c_ (aM_ rfl rfl fun b1 => ?_))
  refine a_ (e_ rfl) rfl (d_ (b_ rfl (g_ (c_ (a_ (f_ rfl) rfl (a_ (f_ rfl) rfl (a_ (M_ 0 U_ l_ rfl rfl rfl) rfl (a_ (f_ rfl) rfl (a_ (ax_ lt_ rfl rfl) rfl ?_)))))))))
  refine K_ (step_c [] none 0 fs gad gcap (Stp.mk k f (-1) fad fcap l) (by decide) (fun x hx => by simp at hx) hfl hfr hfs hsf) rfl x_ (fun v _ h => by exact ⟨.inl rfl, h.2.1, h.1, h.2.2.1, trivial⟩) rfl fun ⟨e1, he1⟩ => ?_
  dsimp only
  have hE1 : e1 = w := by rcases he1 with ⟨q, _⟩ | ⟨_, q⟩; exact absurd (by decide +kernel) q; exact q.trans hw
  refine a_ (f_ rfl) rfl (E_ (aG_ rfl rfl) rfl fun r1 hr1 => ?_)
  refine a_ (e_ rfl) rfl (d_ (b_ rfl (u_ ?_)))
  exact Y_ Tryz.results30 () (s_ rfl (by rw [← hr1]; simp [hE1])) x_ (fun _ _ _ => trivial)
theorem pM_ (l : List Stp) (ad : Option Addr) (cap : Nat) (hl : l.length ≤ 1256584717424) (hbig : ∀ s ∈ l, s.fact.lim) : Tri Tryz.prog 11 #[.agg #[.slice ad (List.length l) cap]] [] [aY_ ad (List.flatMap Stp.cells l), cP_ l] (fun b : {b : Bool // b = true → l.length ≤ 60 ∧ ∀ s ∈ l, s.few} => .bool b.1) (fun _ => []) (fun _ => []) := by
 refine S_ Tryz.func11 rfl rfl Tryz.ntmps11 rfl fun v0 => ?_
 refine g_ (c_ (aM_ rfl rfl fun b1 => ?_))
 refine a_ (e_ rfl) rfl (d_ (b_ rfl (g_ (g_ (c_ (a_ (h_ ab_ rfl rfl rfl al_) rfl (a_ (n_ 0 bd_ rfl rfl rfl) rfl (a_ (aA_ af_ rfl) rfl (E_ (bp_ rfl rfl) rfl fun r1 hr1 => ?_)))))))))
 refine d_ (b_ rfl ?_)
 cases r1
 ·
  replace hr1 := of_decide_eq_false hr1
  refine A_ rfl (J_ (b_ rfl (g_ (g_ (c_ (a_ (e_ rfl) rfl (d_ (b_ rfl (ae_ ?_)))))))))
  refine bt_ (ι := {y : Nat // y ≤ List.length l ∧ (∀ z ∈ List.take y l, Stp.few z)}) (fun y => [(1, zp_ b1 0), (2, .bool false), (3, .int .i64 (y.1 : Int))]) (fun y => ((b1, .cells #[.slice ad (List.length l) cap] 27 (0, 0)) :: [])) (fun y => [aY_ ad (List.flatMap Stp.cells l), cP_ l]) (fun y => List.length l - y.1) ⟨(0 : Nat), by simp, by simp⟩ ⟨rfl, rfl, rfl, trivial⟩ C_ (fun _ _ h => h) ?_
  rintro ⟨i, hi_i, hall⟩
  dsimp only at hi_i hall ⊢
  refine g_ (g_ (c_ (a_ (f_ rfl) rfl (a_ (h_ ab_ rfl rfl rfl al_) rfl (a_ (n_ 0 bd_ rfl rfl rfl) rfl (a_ (aA_ af_ rfl) rfl (E_ (au_ rfl rfl) rfl fun r2 hr2 => ?_)))))))
  refine d_ (b_ rfl ?_)
  cases r2
  ·
   replace hr2 := of_decide_eq_false hr2
   refine A_ rfl (bj_ rfl (b_ rfl (g_ (c_ (a_ (e_ rfl) rfl (d_ (b_ rfl (u_ ?_))))))))
   exact Y_ Tryz.results11 ⟨true, fun _ => ⟨by omega, by rwa [List.take_of_length_le (by omega)] at hall⟩⟩ rfl x_ (fun _ _ _ => trivial)
  ·
   replace hr2 := of_decide_eq_true hr2
   have hlx1 : i < List.length l := by omega
   obtain ⟨x1, hx1⟩ : ∃ e0, l[i]? = some e0 := ⟨_, List.getElem?_eq_getElem hlx1⟩
   have hmx1 : x1 ∈ l := List.mem_of_getElem? hx1
   obtain ⟨q1, q2, q3⟩ := hbig x1 hmx1
   refine w_ rfl (J_ (b_ rfl (g_ (ae_ (g_ (c_ (a_ (h_ ab_ rfl rfl rfl al_) rfl (a_ (n_ 0 bd_ rfl rfl rfl) rfl (a_ (f_ rfl) rfl ?_)))))))))
   refine a_ (an_ af_ ak_ rfl rfl (fun v _ h => ba_ (n := 9) Stp.cells_len (by decide) (by exact h.1) hx1) (by omega) (by first | omega | (simp; done))) rfl (a_ (aX_ (ad := ad) (us := Stp.cells x1) bY_ ak_ rfl (fun v _ h => by exact h.1) (Stp.cells_len _) (ar_ Stp.cells_len hx1)) rfl (Z_ bb_ rfl fun b2 => ?_))
   refine Q_ 0 ak_ rfl rfl rfl rfl rfl rfl (d_ (b_ rfl (g_ (c_ (a_ (h_ G_ rfl rfl rfl bc_) rfl (a_ (n_ 0 bz_ rfl rfl rfl) rfl (a_ (aA_ aj_ rfl) rfl (E_ (bp_ rfl rfl) rfl fun r3 hr3 => ?_))))))))
   refine a_ (f_ rfl) rfl ?_
   cases r3
   ·
    replace hr3 := of_decide_eq_false hr3
    refine i_ rfl rfl (a_ (h_ G_ rfl rfl rfl l_) rfl (i_ rfl rfl (a_ (h_ o_ rfl rfl rfl y_) rfl (i_ rfl rfl (a_ (n_ 0 H_ rfl rfl rfl) rfl (i_ rfl rfl (a_ (cd_ aa_ rfl) rfl (i_ rfl rfl (a_ (h_ G_ rfl rfl rfl l_) rfl ?_)))))))))
    refine i_ rfl rfl (a_ (h_ o_ rfl rfl rfl y_) rfl (i_ rfl rfl (a_ (n_ 0 H_ rfl rfl rfl) rfl (i_ rfl rfl (a_ (cd_ aa_ rfl) rfl (i_ rfl rfl (a_ (ag_ rfl rfl rfl (aS_ (by omega) (by omega))) rfl (i_ rfl rfl (a_ (h_ G_ rfl rfl rfl l_) rfl ?_)))))))))
    refine i_ rfl rfl (a_ (h_ o_ rfl rfl rfl y_) rfl (i_ rfl rfl (a_ (n_ 0 H_ rfl rfl rfl) rfl (i_ rfl rfl (a_ (cd_ aa_ rfl) rfl (i_ rfl rfl (a_ (ag_ rfl rfl rfl (aS_ (by omega) (by omega))) rfl (i_ rfl rfl (E_ (bp_ rfl rfl) rfl fun r4 hr4 => ?_)))))))))
    refine a_ (t_ rfl rfl) rfl (d_ (b_ rfl ?_))
    cases r4
    ·
     replace hr4 := of_decide_eq_false hr4
     refine A_ rfl (J_ (b_ rfl (c_ (a_ (f_ rfl) rfl (a_ (ag_ rfl rfl rfl (aS_ (by omega) (by omega))) rfl (a_ (e_ rfl) rfl (d_ (p_ rfl ?_))))))))
     exact aU_ ⟨i + 1, hlx1, lk_ hall hx1 ⟨by omega, by omega⟩⟩ (by dsimp only; omega) ⟨rfl, rfl, rfl, trivial⟩ (F_ C_) (fun _ _ h => h)
    ·
     replace hr4 := of_decide_eq_true hr4
     refine w_ rfl (g_ (c_ (a_ (e_ rfl) rfl (d_ (b_ rfl (u_ ?_))))))
     exact Y_ Tryz.results11 ⟨false, fun h => by cases h⟩ rfl x_ (fun _ _ _ => trivial)
   ·
    replace hr3 := of_decide_eq_true hr3
    refine k_ rfl rfl rfl rfl (k_ rfl rfl rfl rfl (k_ rfl rfl rfl rfl (k_ rfl rfl rfl rfl (k_ rfl rfl rfl rfl (k_ rfl rfl rfl rfl (k_ rfl rfl rfl rfl (k_ rfl rfl rfl rfl (k_ rfl rfl rfl rfl (k_ rfl rfl rfl rfl ?_)))))))))
    refine k_ rfl rfl rfl rfl (k_ rfl rfl rfl rfl (k_ rfl rfl rfl rfl (k_ rfl rfl rfl rfl (k_ rfl rfl rfl rfl (a_ (v_ rfl rfl) rfl (d_ (b_ rfl (w_ rfl (g_ ?_)))))))))
    refine c_ (a_ (e_ rfl) rfl (d_ (b_ rfl (u_ ?_))))
    exact Y_ Tryz.results11 ⟨false, fun h => by cases h⟩ rfl x_ (fun _ _ _ => trivial)
 ·
  replace hr1 := of_decide_eq_true hr1
  refine w_ rfl (g_ (c_ (a_ (e_ rfl) rfl (d_ (b_ rfl (u_ ?_))))))
  exact Y_ Tryz.results11 ⟨false, fun h => by cases h⟩ rfl x_ (fun _ _ _ => trivial)
theorem hu_ (Y : List Stp) (yad : Option Addr) (ycap : Nat) (Z : List Stp) (zad : Option Addr) (zcap : Nat) (hS : SameS Y Z) (hl : Y.length ≤ 1000000) (hfl : ∀ s ∈ Y, s.frm.length ≤ 1000000) : Tri Tryz.prog 18 #[.agg #[.slice yad (List.length Y) ycap], .agg #[.slice zad (List.length Z) zcap]] [] [aY_ yad (List.flatMap Stp.cells Y), cP_ Y, aY_ zad (List.flatMap Stp.cells Z), cP_ Z] (fun _ : Unit => .bool true) (fun _ => []) (fun _ => []) := by
 refine S_ Tryz.func18 rfl rfl Tryz.ntmps18 rfl fun v0 => ?_
 have hlen := hS.len
 refine g_ (c_ (aM_ rfl rfl fun b1 => ?_))
 refine aM_ rfl rfl fun b2 => ?_
 refine a_ (e_ rfl) rfl (d_ (b_ rfl (g_ (g_ (c_ (a_ (h_ ab_ rfl rfl rfl al_) rfl (a_ (n_ 1 bd_ rfl rfl rfl) rfl (a_ (aA_ af_ rfl) rfl (a_ (h_ ab_ rfl rfl rfl al_) rfl ?_)))))))))
 refine a_ (n_ 0 bd_ rfl rfl rfl) rfl (a_ (aA_ af_ rfl) rfl (E_ (bF_ rfl rfl) rfl fun r1 hr1 => ?_))
 refine d_ (b_ rfl ?_)
 cases r1
 ·
  replace hr1 := bw_ hr1
  refine A_ rfl (J_ (b_ rfl (g_ (g_ (c_ (a_ (e_ rfl) rfl (d_ (b_ rfl (ae_ ?_)))))))))
  refine bt_ (ι := {y : Nat // y ≤ List.length Y}) (fun y => [(2, zp_ b1 0), (3, zp_ b2 0), (4, .bool false), (5, .int .i64 (y.1 : Int))]) (fun y => ((b2, .cells #[.slice zad (List.length Z) zcap] 27 (0, 0)) :: ((b1, .cells #[.slice yad (List.length Y) ycap] 27 (0, 0)) :: []))) (fun y => [aY_ yad (List.flatMap Stp.cells Y), cP_ Y, aY_ zad (List.flatMap Stp.cells Z), cP_ Z]) (fun y => List.length Y - y.1) ⟨(0 : Nat), by simp⟩ ⟨rfl, rfl, rfl, rfl, trivial⟩ (N_ C_ C_) (fun _ _ h => h) ?_
  rintro ⟨i, hi_i⟩
  dsimp only at hi_i ⊢
  refine g_ (g_ (c_ (a_ (f_ rfl) rfl (a_ (h_ ab_ rfl rfl rfl al_) rfl (a_ (n_ 1 bd_ rfl rfl rfl) rfl (a_ (aA_ af_ rfl) rfl (E_ (au_ rfl rfl) rfl fun r2 hr2 => ?_)))))))
  refine d_ (b_ rfl ?_)
  cases r2
  ·
   replace hr2 := of_decide_eq_false hr2
   refine A_ rfl (bj_ rfl (b_ rfl (g_ (c_ (a_ (e_ rfl) rfl (d_ (b_ rfl (u_ ?_))))))))
   exact Y_ Tryz.results18 () rfl x_ (fun _ _ _ => trivial)
  ·
   replace hr2 := of_decide_eq_true hr2
   have hlx1 : i < List.length Y := by omega
   obtain ⟨x1, hx1⟩ : ∃ e0, Y[i]? = some e0 := ⟨_, List.getElem?_eq_getElem hlx1⟩
   have hmx1 : x1 ∈ Y := List.mem_of_getElem? hx1
   have hlz : i < List.length Z := by have := hS.len; omega
   have hly1 : i < List.length Z := hlz
   obtain ⟨y1, hy1⟩ : ∃ e0, Z[i]? = some e0 := ⟨_, List.getElem?_eq_getElem hly1⟩
   have hmy1 : y1 ∈ Z := List.mem_of_getElem? hy1
   obtain ⟨he1, he2, he3, he4⟩ := hS.eq i x1 y1 hx1 hy1
   have hf1 := hfl x1 hmx1
   refine w_ rfl (J_ (b_ rfl (g_ (ae_ (g_ (c_ (a_ (h_ ab_ rfl rfl rfl al_) rfl (a_ (n_ 1 bd_ rfl rfl rfl) rfl (a_ (f_ rfl) rfl ?_)))))))))
   refine a_ (an_ af_ ak_ rfl rfl (fun v _ h => ba_ (n := 9) Stp.cells_len (by decide) (by exact h.1) hx1) (by omega) (by first | omega | (simp; done))) rfl (a_ (aX_ (ad := yad) (us := Stp.cells x1) bY_ ak_ rfl (fun v _ h => by exact h.1) (Stp.cells_len _) (ar_ Stp.cells_len hx1)) rfl (Z_ bb_ rfl fun b3 => ?_))
   refine Q_ 0 ak_ rfl rfl rfl rfl rfl rfl (d_ (b_ rfl (g_ (c_ (a_ (h_ ab_ rfl rfl rfl al_) rfl (a_ (n_ 1 bd_ rfl rfl rfl) rfl (a_ (f_ rfl) rfl (a_ (an_ af_ ak_ rfl rfl (fun v _ h => ba_ (n := 9) Stp.cells_len (by decide) (by exact h.2.2.1) hy1) (by omega) (by first | omega | (simp; done))) rfl (a_ (aX_ (ad := zad) (us := Stp.cells y1) bY_ ak_ rfl (fun v _ h => by exact h.2.2.1) (Stp.cells_len _) (ar_ Stp.cells_len hy1)) rfl ?_)))))))))
   refine Z_ bb_ rfl fun b4 => ?_
   refine Q_ 0 ak_ rfl rfl rfl rfl rfl rfl (d_ (b_ rfl (g_ (g_ (c_ (a_ (h_ G_ rfl rfl rfl q_) rfl (a_ (n_ 1 B_ rfl rfl rfl) rfl (a_ (h_ G_ rfl rfl rfl q_) rfl (a_ (n_ 0 B_ rfl rfl rfl) rfl ?_)))))))))
   refine E_ (bF_ rfl rfl) rfl fun r3 hr3 => ?_
   refine a_ (f_ rfl) rfl ?_
   cases r3
   ·
    replace hr3 := bw_ hr3
    refine i_ rfl rfl (a_ (h_ G_ rfl rfl rfl l_) rfl (i_ rfl rfl (a_ (M_ 1 U_ l_ rfl rfl rfl) rfl (i_ rfl rfl (a_ (h_ G_ rfl rfl rfl l_) rfl (i_ rfl rfl (a_ (M_ 0 U_ l_ rfl rfl rfl) rfl (i_ rfl rfl (E_ (iD_ (p := (Stp.fact x1)) (q := (Stp.fact y1)) rfl rfl) rfl fun r4 hr4 => ?_)))))))))
    refine a_ (t_ rfl rfl) rfl (a_ (f_ rfl) rfl ?_)
    cases r4
    ·
     replace hr4 := of_decide_eq_false hr4
     refine i_ rfl rfl (a_ (h_ G_ rfl rfl rfl q_) rfl (i_ rfl rfl (a_ (n_ 1 B_ rfl rfl rfl) rfl (i_ rfl rfl (a_ (h_ G_ rfl rfl rfl q_) rfl (i_ rfl rfl (a_ (n_ 0 B_ rfl rfl rfl) rfl (i_ rfl rfl (E_ (bF_ rfl rfl) rfl fun r5 hr5 => ?_)))))))))
     refine a_ (t_ rfl rfl) rfl (a_ (f_ rfl) rfl ?_)
     cases r5
     ·
      replace hr5 := bw_ hr5
      refine i_ rfl rfl (a_ (h_ G_ rfl rfl rfl bc_) rfl (i_ rfl rfl (a_ (n_ 1 bz_ rfl rfl rfl) rfl (i_ rfl rfl (a_ (aA_ aj_ rfl) rfl (i_ rfl rfl (a_ (h_ G_ rfl rfl rfl bc_) rfl (i_ rfl rfl (a_ (n_ 0 bz_ rfl rfl rfl) rfl ?_)))))))))
      refine i_ rfl rfl (a_ (aA_ aj_ rfl) rfl (i_ rfl rfl (E_ (bF_ rfl rfl) rfl fun r6 hr6 => ?_)))
      refine a_ (t_ rfl rfl) rfl (d_ (b_ rfl ?_))
      cases r6
      ·
       replace hr6 := bw_ hr6
       refine A_ rfl (J_ (b_ rfl (g_ (c_ (a_ (e_ rfl) rfl (d_ (b_ rfl (ae_ ?_))))))))
       refine bt_ (ι := {y : Nat // y ≤ List.length (Stp.frm x1)}) (fun y => [(2, zp_ b1 0), (3, zp_ b2 0), (4, .bool false), (5, .int .i64 (i : Int)), (6, zp_ b3 0), (7, zp_ b4 0), (8, .int .i64 (y.1 : Int))]) (fun y => ((b4, .cells #[.int .i64 (Stp.rule y1), .int .i64 (Fc.kind (Stp.fact y1)), str (Fc.a (Stp.fact y1)), str (Fc.b (Stp.fact y1)), str (Fc.r (Stp.fact y1)), .int .i64 (Fc.lo (Stp.fact y1)), .int .i64 (Fc.hi (Stp.fact y1)), .int .i64 (Stp.piece y1), .slice (Stp.ad y1) (List.length (Stp.frm y1)) (Stp.cap y1)] 36 (0, 0)) :: ((b3, .cells #[.int .i64 (Stp.rule x1), .int .i64 (Fc.kind (Stp.fact x1)), str (Fc.a (Stp.fact x1)), str (Fc.b (Stp.fact x1)), str (Fc.r (Stp.fact x1)), .int .i64 (Fc.lo (Stp.fact x1)), .int .i64 (Fc.hi (Stp.fact x1)), .int .i64 (Stp.piece x1), .slice (Stp.ad x1) (List.length (Stp.frm x1)) (Stp.cap x1)] 36 (0, 0)) :: ((b2, .cells #[.slice zad (List.length Z) zcap] 27 (0, 0)) :: ((b1, .cells #[.slice yad (List.length Y) ycap] 27 (0, 0)) :: []))))) (fun y => [aY_ yad (List.flatMap Stp.cells Y), cP_ Y, aY_ zad (List.flatMap Stp.cells Z), cP_ Z]) (fun y => List.length (Stp.frm x1) - y.1) ⟨(0 : Nat), by simp⟩ ⟨rfl, rfl, rfl, rfl, rfl, rfl, rfl, trivial⟩ (N_ C_ (N_ C_ (N_ C_ C_))) (fun _ _ h => h) ?_
       rintro ⟨j, hi_j⟩
       dsimp only at hi_j ⊢
       refine g_ (g_ (c_ (a_ (f_ rfl) rfl (a_ (h_ G_ rfl rfl rfl bc_) rfl (a_ (n_ 1 bz_ rfl rfl rfl) rfl (a_ (aA_ aj_ rfl) rfl (E_ (au_ rfl rfl) rfl fun r7 hr7 => ?_)))))))
       refine d_ (b_ rfl ?_)
       cases r7
       ·
        replace hr7 := of_decide_eq_false hr7
        refine A_ rfl (bj_ rfl (b_ rfl (c_ (a_ (f_ rfl) rfl (a_ (ag_ rfl rfl rfl (aS_ (by omega) (by omega))) rfl (a_ (e_ rfl) rfl (d_ (p_ rfl ?_))))))))
        exact aU_ ⟨i + 1, hlx1⟩ (by dsimp only; omega) ⟨rfl, rfl, rfl, rfl, trivial⟩ (N_ (F_ (F_ C_)) (F_ (F_ C_))) (fun _ _ h => h)
       ·
        replace hr7 := of_decide_eq_true hr7
        have hlx2 : j < List.length (Stp.frm x1) := by omega
        obtain ⟨x2, hx2⟩ : ∃ e0, (Stp.frm x1)[j]? = some e0 := ⟨_, List.getElem?_eq_getElem hlx2⟩
        have hmx2 : x2 ∈ (Stp.frm x1) := List.mem_of_getElem? hx2
        have hy2 : (Stp.frm y1)[j]? = some x2 := he4 ▸ hx2
        have hly2 : j < List.length (Stp.frm y1) := by rw [← he4]; omega
        refine w_ rfl (J_ (b_ rfl (g_ (ae_ (g_ ?_)))))
        refine aW_ (by kernel_rfl) ?_
        refine P_ 0 [0, 1, 2, 3, 4, 5, 6, 7, 8, 9, 10] (by kernel_rfl) (fun _ a b => ⟨a, b⟩) (m_ rfl (h_ G_ rfl rfl rfl bc_) rfl (m_ rfl (n_ 1 bz_ rfl rfl rfl) rfl (m_ rfl (f_ rfl) rfl (m_ rfl (an_ aj_ q_ rfl rfl (fun v _ h => ba_ (n := 1) cu_ (by decide) (by exact (h.2.1 x1 hmx1)) hx2) (by omega) (by first | omega | (simp; done))) rfl (m_ rfl (bE_ (ad := (Stp.ad x1)) B_ rfl (fun v _ h => by exact (h.2.1 x1 hmx1)) (ar_ cu_ hx2 0 _ rfl)) rfl (m_ rfl (h_ G_ rfl rfl rfl bc_) rfl (m_ rfl (n_ 0 bz_ rfl rfl rfl) rfl (m_ rfl (f_ rfl) rfl (m_ rfl (an_ aj_ q_ rfl rfl (fun v _ h => ba_ (n := 1) cu_ (by decide) (by exact (h.2.2.2.1 y1 hmy1)) hy2) (by omega) (by first | omega | (simp; done))) rfl ?_)))))))))
        refine m_ rfl (bE_ (ad := (Stp.ad y1)) B_ rfl (fun v _ h => by exact (h.2.2.2.1 y1 hmy1)) (ar_ cu_ hy2 0 _ rfl)) rfl ?_
        refine bJ_ rfl (bF_ rfl rfl) rfl fun r8 hr8 => ?_
        refine O_ (T_ (by kernel_rfl) (b_ rfl ?_))
        cases r8
        ·
         replace hr8 := bw_ hr8
         refine A_ rfl (J_ (b_ rfl (c_ (a_ (f_ rfl) rfl (a_ (ag_ rfl rfl rfl (aS_ (by omega) (by omega))) rfl (a_ (e_ rfl) rfl (d_ (p_ rfl ?_))))))))
         exact aU_ ⟨j + 1, hlx2⟩ (by dsimp only; omega) ⟨rfl, rfl, rfl, rfl, rfl, rfl, rfl, trivial⟩ (N_ C_ (N_ C_ (N_ C_ C_))) (fun _ _ h => h)
        ·
         replace hr8 := bv_ hr8
         first | exact absurd he1 hr8 | exact absurd he2 hr8 | exact absurd he3 hr8 | exact absurd rfl hr8 | (exfalso; rw [he4] at hr8; exact hr8 rfl)
      ·
       replace hr6 := bv_ hr6
       first | exact absurd he1 hr6 | exact absurd he2 hr6 | exact absurd he3 hr6 | exact absurd rfl hr6 | (exfalso; rw [he4] at hr6; exact hr6 rfl)
     ·
      replace hr5 := bv_ hr5
      first | exact absurd he1 hr5 | exact absurd he2 hr5 | exact absurd he3 hr5 | exact absurd rfl hr5 | (exfalso; rw [he4] at hr5; exact hr5 rfl)
    ·
     replace hr4 := of_decide_eq_true hr4
     first | exact absurd he1 hr4 | exact absurd he2 hr4 | exact absurd he3 hr4 | exact absurd rfl hr4 | (exfalso; rw [he4] at hr4; exact hr4 rfl)
   ·
    replace hr3 := bv_ hr3
    first | exact absurd he1 hr3 | exact absurd he2 hr3 | exact absurd he3 hr3 | exact absurd rfl hr3 | (exfalso; rw [he4] at hr3; exact hr3 rfl)
 ·
  replace hr1 := bv_ hr1
  exact absurd (congrArg Nat.cast hS.len) hr1
end Go.Proofs.YtaffcjgphlhppaaGreatDoor
namespace Go.Proofs.YtaffcjgphlhppaaGreatDoor
open Go Go.Sx Go.Proofs
attribute [local irreducible] Code.wp wpList wpAnyH
open Go.Vs
theorem ok_ax7 : Ax.ok (Ax.mk 7 false (Con.mk 0 [] 0 0 none 0 []) (Con.mk 0 [] 0 0 none 0 []) none 0 [] [114] [] []) := by constructor <;> simp [Con.ok, Con.ok.oks]
theorem oy_ : Ax.check (Ax.mk 7 false (Con.mk 0 [] 0 0 none 0 []) (Con.mk 0 [] 0 0 none 0 []) none 0 [] [114] [] []) = 0 := by decide +kernel
theorem pm_ {v : Vw} : (Ax.memF (Ax.mk 7 false (Con.mk 0 [] 0 0 none 0 []) (Con.mk 0 [] 0 0 none 0 []) none 0 [] [114] [] [])).p v := ⟨⟨.inl rfl, trivial⟩, ⟨.inl rfl, trivial⟩, .inl rfl⟩
theorem pJ_ (x : Ax) (hok : x.ok) (hc : x.check = 0) (hk : x.kind = 7) : Tri Tryz.prog 26 #[Ax.val x] [] [Ax.memF x, gL_] (fun _ : Unit => .tuple #[.slice none 0 0, .slice none 0 0, .int .i64 22]) (fun _ => []) (fun _ => []) := by
 refine S_ Tryz.func26 rfl rfl Tryz.ntmps26 rfl fun v0 => ?_
 refine g_ (c_ (aM_ rfl rfl fun b1 => ?_))
 refine a_ (e_ rfl) rfl (a_ (e_ rfl) rfl (a_ (e_ rfl) rfl (d_ (b_ rfl (g_ (g_ (c_ (a_ (M_ 0 Tryz.isAgg58 Tryz.sizeOf58 rfl rfl rfl) rfl (K_ (jZ_ x hok) rfl x_ (fun v _ h => by exact ⟨h.1, h.2.1, trivial⟩) rfl fun _ => ?_)))))))))
 refine a_ (e_ rfl) rfl (d_ (b_ rfl (g_ (c_ (a_ (f_ rfl) rfl (E_ (bF_ rfl rfl) rfl fun r1 hr1 => ?_))))))
 refine d_ (b_ rfl ?_)
 cases r1
 ·
  replace hr1 := bw_ hr1
  refine A_ rfl (J_ (b_ rfl (g_ (c_ (K_ (id_ (-1)) rfl x_ (fun _ _ _ => by exact trivial) rfl fun ⟨kb, bm0⟩ => ?_)))))
  dsimp only
  refine as_ (@List.perm_append_comm _ _ [_]) (a_ (e_ rfl) rfl (d_ (b_ rfl (g_ (c_ (a_ (f_ rfl) rfl (K_ (pa_ kb) rfl x_ (fun _ _ _ => by exact trivial) rfl fun ⟨bk, bl, br⟩ => ?_)))))))
  dsimp only
  refine a_ (f_ rfl) rfl (a_ (V_ rfl rfl) rfl (a_ (V_ rfl rfl) rfl (a_ (e_ rfl) rfl (a_ (e_ rfl) rfl (d_ (b_ rfl (g_ (c_ (a_ (e_ rfl) rfl ?_)))))))))
  refine d_ (b_ rfl (g_ (g_ (c_ (a_ (h_ W_ rfl rfl rfl q_) rfl (a_ (n_ 0 B_ rfl rfl rfl) rfl (d_ (b_ rfl (ae_ ?_)))))))))
  refine g_ (g_ (c_ (E_ (aG_ rfl rfl) rfl fun r2 hr2 => ?_)))
  refine a_ (e_ rfl) rfl (d_ (b_ rfl ?_))
  cases r2
  ·
   replace hr2 := ne_of_beq_false hr2
   refine A_ rfl (c_ (E_ (aG_ rfl rfl) rfl fun r3 hr3 => ?_))
   refine a_ (e_ rfl) rfl (d_ (b_ rfl ?_))
   cases r3
   ·
    replace hr3 := ne_of_beq_false hr3
    refine A_ rfl (g_ (c_ (E_ (aG_ rfl rfl) rfl fun r4 hr4 => ?_)))
    refine a_ (e_ rfl) rfl (d_ (b_ rfl ?_))
    cases r4
    ·
     replace hr4 := ne_of_beq_false hr4
     refine A_ rfl (g_ (c_ (E_ (aG_ rfl rfl) rfl fun r5 hr5 => ?_)))
     refine a_ (e_ rfl) rfl (d_ (b_ rfl ?_))
     cases r5
     ·
      replace hr5 := ne_of_beq_false hr5
      refine A_ rfl (g_ (c_ (E_ (aG_ rfl rfl) rfl fun r6 hr6 => ?_)))
      refine a_ (e_ rfl) rfl (d_ (b_ rfl ?_))
      cases r6
      ·
       replace hr6 := ne_of_beq_false hr6
       refine A_ rfl (g_ (c_ (E_ (aG_ rfl rfl) rfl fun r7 hr7 => ?_)))
       refine a_ (e_ rfl) rfl (d_ (b_ rfl ?_))
       cases r7
       ·
        replace hr7 := ne_of_beq_false hr7
        refine A_ rfl (g_ (c_ (a_ (e_ rfl) rfl (a_ (e_ rfl) rfl (a_ (e_ rfl) rfl (d_ (b_ rfl (u_ ?_))))))))
        exact nP_ Tryz.results26 () rfl rfl rfl rfl x_ (fun _ _ _ => trivial)
       ·
        replace hr7 := eq_of_beq hr7
        exfalso; omega
      ·
       replace hr6 := eq_of_beq hr6
       exfalso; omega
     ·
      replace hr5 := eq_of_beq hr5
      exfalso; omega
    ·
     replace hr4 := eq_of_beq hr4
     exfalso; omega
   ·
    replace hr3 := eq_of_beq hr3
    exfalso; omega
  ·
   replace hr2 := eq_of_beq hr2
   exfalso; omega
 ·
  replace hr1 := bv_ hr1
  exact absurd hc hr1
theorem mP_ : Tri Tryz.prog 25 #[.slice none 0 0] [] [] (fun _ : Unit => .tuple #[.slice none 0 0, .int .i64 0]) (fun _ => []) (fun _ => []) := by
  refine S_ Tryz.func25 rfl rfl Tryz.ntmps25 rfl fun v0 => ?_
  refine g_ (c_ (a_ (e_ rfl) rfl (a_ (e_ rfl) rfl (d_ (b_ rfl (g_ (g_ (c_ (a_ (f_ rfl) rfl ?_)))))))))
  refine a_ (aA_ Tryz.runUnderlying53 rfl) rfl (a_ (ch_ (bp_ rfl rfl) (show _ = Value.bool false from congrArg Value.bool (by decide))) rfl (d_ (b_ rfl (A_ rfl (J_ (b_ rfl (g_ (g_ (c_ ?_)))))))))
  refine a_ (f_ rfl) rfl (a_ (aA_ Tryz.runUnderlying53 rfl) rfl (a_ (f_ rfl) rfl (d_ (b_ rfl (ae_ ?_)))))
  refine bt_ (ι := {y : Nat // y ≤ List.length ([] : List Ax)}) (fun y => [(0, .slice none 0 0), (2, .slice none 0 0), (3, .int .i64 0), (13, .slice none 0 0), (14, .int .i64 0), (15, .int .i64 (y.1 : Int))]) (fun y => ([])) (fun y => []) (fun y => List.length ([] : List Ax) - y.1) ⟨(0 : Nat), by simp⟩ ⟨rfl, rfl, rfl, rfl, rfl, rfl, trivial⟩ x_ (fun _ _ _ => trivial) ?_
  rintro ⟨i, hi_i⟩
  dsimp only at hi_i ⊢
  refine g_ (c_ (E_ (au_ rfl rfl) rfl fun r1 hr1 => ?_))
  refine d_ (b_ rfl (g_ ?_))
  cases r1
  · skip
    replace hr1 := of_decide_eq_false hr1
    refine A_ rfl (bj_ rfl (b_ rfl (g_ (g_ (c_ (a_ (f_ rfl) rfl (a_ (aA_ Tryz.runUnderlying53 rfl) rfl (a_ (f_ rfl) rfl (d_ ?_)))))))))
    refine b_ rfl (ae_ ?_)
    refine bt_ (ι := {y : Nat // y ≤ List.length ([] : List Ax)}) (fun y => [(0, .slice none 0 0), (2, .slice none 0 0), (3, .int .i64 0), (25, .slice none 0 0), (26, .int .i64 0), (27, .int .i64 (y.1 : Int))]) (fun y => ([])) (fun y => []) (fun y => List.length ([] : List Ax) - y.1) ⟨(0 : Nat), by simp⟩ ⟨rfl, rfl, rfl, rfl, rfl, rfl, trivial⟩ x_ (fun _ _ _ => trivial) ?_
    rintro ⟨j, hi_j⟩
    dsimp only at hi_j ⊢
    refine g_ (c_ (E_ (au_ rfl rfl) rfl fun r2 hr2 => ?_))
    refine d_ (b_ rfl (g_ ?_))
    cases r2
    · skip
      replace hr2 := of_decide_eq_false hr2
      refine A_ rfl (bj_ rfl (b_ rfl (g_ (c_ (a_ (f_ rfl) rfl (a_ (e_ rfl) rfl (a_ (e_ rfl) rfl (d_ (b_ rfl ?_)))))))))
      refine u_ ?_
      exact lv_ Tryz.results25 () rfl rfl rfl x_ (fun _ _ _ => trivial)
    · skip
      replace hr2 := of_decide_eq_true hr2
      exfalso; omega
  · skip
    replace hr1 := of_decide_eq_true hr1
    exfalso; omega
theorem src0_c (x : Ax) (hok : x.ok) (hc : x.check = 0) (hk : x.kind = 7) : Tri Tryz.prog 24 #[.slice none 0 0, Ax.val x, .slice none 0 0] [] [Ax.memF x, gL_] (fun _ : Unit => .int .i64 22) (fun _ => []) (fun _ => []) := by
  refine S_ Tryz.func24 rfl rfl Tryz.ntmps24 rfl fun v0 => ?_
  refine g_ (c_ (aM_ rfl rfl fun b1 => ?_))
  refine a_ (e_ rfl) rfl (d_ (b_ rfl (g_ (c_ (a_ (f_ rfl) rfl (K_ (mP_) rfl x_ (fun _ _ _ => by exact trivial) rfl fun _ => ?_))))))
  refine a_ (f_ rfl) rfl (a_ (V_ rfl rfl) rfl (a_ (V_ rfl rfl) rfl (a_ (e_ rfl) rfl (a_ (e_ rfl) rfl (d_ (b_ rfl (g_ (g_ (c_ ?_)))))))))
  refine a_ (f_ rfl) rfl (a_ (ch_ (bF_ rfl rfl) (show _ = Value.bool false from congrArg Value.bool (by decide))) rfl (d_ (b_ rfl (A_ rfl (J_ (b_ rfl (g_ (c_ (a_ (M_ 0 Tryz.isAgg58 Tryz.sizeOf58 rfl rfl rfl) rfl ?_)))))))))
  refine K_ (pJ_ x hok hc hk) rfl x_ (fun v _ h => by exact ⟨h.1, h.2.1, trivial⟩) rfl fun _ => ?_
  refine a_ (f_ rfl) rfl (a_ (V_ rfl rfl) rfl (a_ (V_ rfl rfl) rfl (a_ (V_ rfl rfl) rfl (a_ (e_ rfl) rfl (a_ (e_ rfl) rfl (a_ (e_ rfl) rfl (d_ (b_ rfl (g_ ?_)))))))))
  refine g_ (c_ (a_ (f_ rfl) rfl (a_ (ch_ (bF_ rfl rfl) (show _ = Value.bool true from congrArg Value.bool (by decide))) rfl (d_ (b_ rfl (w_ rfl (g_ (c_ (a_ (f_ rfl) rfl ?_)))))))))
  refine a_ (e_ rfl) rfl (d_ (b_ rfl (u_ ?_)))
  exact Y_ Tryz.results24 () rfl x_ (fun _ _ _ => trivial)
theorem iq_ (l : List Stp) (ad : Option Addr) (cap : Nat) (L : Str) (e : Int) (hE : dm_ l = (L, e)) (hll : l.length ≤ 10000000) (hfr : ∀ s ∈ l, s.frm.length ≤ 1000000) (hsf : ∀ s ∈ l, s.fact.sml) : Tri Tryz.prog 15 #[.agg #[.slice ad l.length cap]] [] [aY_ ad (List.flatMap Stp.cells l), cP_ l] (fun y : {y : Value × Hp // bi_ 5 1 y.1 (List.length L) (List.flatMap u8C L) y.2} => .tuple #[y.1.1, .int .i64 e]) (fun y => y.1.2) (fun _ => []) := by
  have h := oz_ l ad cap hll hfr hsf
  rw [hE] at h
  exact h
def eW_ : Stp := (Stp.mk 1 (aL_ [42] [42]) (-1) none 0 [])
theorem sn_e0 : dm_ [] = ([0, 0, 0, 0], 0) := by decide +kernel
theorem pY_ : dm_ [eW_] = ((dm_ [eW_]).1, 0) := by
  have : (dm_ [eW_]).2 = 0 := by decide +kernel
  rw [← this]
theorem sn_d1 {Y : List Stp} {e : Int} (h : iw_ (dm_ [eW_]).1 Y e) : e = 0 ∧ SameS Y [eW_] := by
  have hd := mx_ pY_ (by intro s hs; rw [List.mem_singleton] at hs; subst hs; decide)
  rcases h with ⟨h1, h2⟩ | ⟨h1, _⟩
  · rw [hd, Option.some.injEq] at h1; exact ⟨h2, gq_ h1.symm⟩
  · rw [hd] at h1; cases h1
theorem sn_d0 {Y : List Stp} {e : Int} (h : iw_ [0] Y e) : e = 120 := by
  rcases h with ⟨h1, h2⟩ | ⟨_, _, h⟩
  · rw [show hp_ [0] = none from rfl] at h1; cases h1
  · exact h
theorem sn_c1 {e : Int} (h : nq_ [] (aL_ [42] [42]) [eW_] e) : e = 0 := by
  refine jp_ h (.inr (.inr ⟨by decide +kernel, by decide, .inl ⟨fun j s hj => ?_, ⟨eW_, rfl, rfl⟩, rfl⟩⟩))
  match j with
  | 0 => simp only [List.getElem?_cons_zero, Option.some.injEq] at hj; subst hj; decide +kernel
  | j + 1 => simp at hj
theorem sn_c2 {e : Int} (h : nq_ [] (aL_ [42] [42]) [] e) : e = 120 :=
  jp_ h (.inr (.inr ⟨by decide +kernel, by decide, .inr ⟨fun q => (by obtain ⟨_, t, ht, _⟩ := q; simp at ht), rfl⟩⟩))
theorem fG_ {l : List Fc} (h : l.all (fun f => Nat.ble f.a.length 17592186044414 && (Nat.ble f.b.length 17592186044414 && Nat.ble f.r.length 17592186044414)) = true) : ∀ x ∈ l, x.sml := fun x hx => by
  have := List.all_eq_true.1 h x hx
  simp only [Bool.and_eq_true, Nat.ble_eq] at this
  exact ⟨this.1, this.2.1, this.2.2⟩
theorem hJ_ {v : Vw} : (cP_ [eW_]).p v := fun x hx => by rw [List.mem_singleton] at hx; subst hx; exact .inl rfl
theorem nJ_ {Y Z : List Stp} (h : SameS Y Z) {n : Nat} (hz : ∀ s ∈ Z, s.frm.length ≤ n) : ∀ s ∈ Y, s.frm.length ≤ n := fun s hs => by
  obtain ⟨i, hi⟩ := List.getElem?_of_mem hs
  have hl := (List.getElem?_eq_some_iff.1 hi).1
  have hz' := List.getElem?_eq_getElem (show i < Z.length by have := h.len; omega)
  rw [(h.eq i s _ hi hz').2.2.2]
  exact hz _ (List.getElem_mem _)
theorem strt58 : gH_ Tryz.prog 58 [(0, 1), (1, 1), (2, 5), (7, 5), (12, 1), (13, 1), (14, 1), (15, 1)] [.int .i64 0, .bool false, .int .i64 0, str [], .int .i64 0, .int .i64 0, .slice none 0 0, .int .i64 0, str [], .int .i64 0, .int .i64 0, .slice none 0 0, .slice none 0 0, str [], str [], str []] := ⟨_, Tryz.zeroValue58, W_, fun w => by simp [q_, aI_, y_, Tryz.sizeOf46, X_]⟩
theorem hH_ : gH_ Tryz.prog 27 [(0, 1)] [.slice none 0 0] := ⟨_, ca_, ab_, fun w => by simp [al_]⟩
set_option maxHeartbeats 1000000 in
theorem nI_ : Tri Tryz.prog 9 #[] [] [jx_, gL_] (fun _ : Unit => .bool true) (fun _ => []) (fun _ => []) := by
 refine S_ Tryz.func9 rfl rfl Tryz.ntmps9 rfl fun v0 => ?_
 refine g_ (c_ (a_ (e_ rfl) rfl (d_ (b_ rfl (g_ (c_ (K_ (iZ_ [65] [114] [66]) rfl x_ (fun _ _ _ => by exact trivial) rfl fun _ => ?_)))))))
 refine K_ (ih_ [66] [33]) rfl x_ (fun _ _ _ => by exact trivial) rfl fun _ => ?_
 refine be_ ai_ l_ bl_ rfl rfl rfl rfl rfl rfl fun b1 => ?_
 refine bU_ (List.flatMap Fc.cells [(bI_ [65] [114] [66]), (aL_ [66] [33])]) C_ rfl ?_
 refine a_ (e_ rfl) rfl (d_ (b_ rfl (g_ (g_ (c_ (K_ (ih_ [65] [33]) rfl x_ (fun _ _ _ => by exact trivial) rfl fun _ => ?_))))))
 refine be_ aj_ q_ cO_ rfl rfl rfl rfl rfl rfl fun b2 => ?_
 refine bU_ (List.flatMap dg_ [0, 1]) C_ rfl ?_
 refine a_ (f_ rfl) rfl (K_ (go_ 9 (aL_ [65] [33]) [0, 1] (some ⟨b2, 0, none⟩) 2 [(bI_ [65] [114] [66]), (aL_ [66] [33])] (some ⟨b1, 0, none⟩) 2 0 (by decide) (by decide) (fG_ (by decide +kernel)) (by decide) (by decide +kernel)) rfl x_ (fun v _ h => by exact ⟨h.1, h.2.1, h.2.2.1, trivial⟩) rfl fun _ => ?_)
 refine a_ (bu_ rfl) rfl (a_ (f_ rfl) rfl (i_ rfl rfl (K_ (ih_ [65] [33]) rfl x_ (fun _ _ _ => by exact trivial) rfl fun _ => ?_)))
 refine i_ rfl rfl (be_ aj_ q_ cO_ rfl rfl rfl rfl rfl rfl fun b3 => ?_)
 refine bU_ (List.flatMap dg_ [1, 0]) C_ rfl ?_
 refine i_ rfl rfl (a_ (f_ rfl) rfl (i_ rfl rfl (K_ (go_ 9 (aL_ [65] [33]) [1, 0] (some ⟨b3, 0, none⟩) 2 [(bI_ [65] [114] [66]), (aL_ [66] [33])] (some ⟨b1, 0, none⟩) 2 120 (by decide) (by decide) (fG_ (by decide +kernel)) (by decide) (by decide +kernel)) rfl x_ (fun v _ h => by exact ⟨h.1, h.2.2.1, h.2.2.2.1, trivial⟩) rfl fun _ => ?_)))
 refine i_ rfl rfl (a_ (bu_ rfl) rfl (a_ (t_ rfl rfl) rfl (a_ (f_ rfl) rfl (i_ rfl rfl (K_ (iZ_ [65] [114] [65]) rfl x_ (fun _ _ _ => by exact trivial) rfl fun _ => ?_)))))
 refine i_ rfl rfl (be_ aj_ q_ cO_ rfl rfl rfl rfl rfl rfl fun b4 => ?_)
 refine bU_ (List.flatMap dg_ [0]) C_ rfl ?_
 refine i_ rfl rfl (K_ (ih_ [65] [33]) rfl x_ (fun _ _ _ => by exact trivial) rfl fun _ => ?_)
 refine i_ rfl rfl (be_ ai_ l_ bl_ rfl rfl rfl rfl rfl rfl fun b5 => ?_)
 refine bU_ (List.flatMap Fc.cells [(aL_ [65] [33])]) C_ rfl ?_
 refine i_ rfl rfl (K_ (go_ 15 (bI_ [65] [114] [65]) [0] (some ⟨b4, 0, none⟩) 1 [(aL_ [65] [33])] (some ⟨b5, 0, none⟩) 1 0 (by decide) (by decide) (fG_ (by decide +kernel)) (by decide) (by decide +kernel)) rfl x_ (fun v _ h => by exact ⟨h.2.1, h.1, h.2.2.2.2.2.1, trivial⟩) rfl fun _ => ?_)
 refine i_ rfl rfl (a_ (bu_ rfl) rfl (a_ (t_ rfl rfl) rfl (d_ (b_ rfl (A_ rfl (J_ (b_ rfl (g_ (c_ ?_)))))))))
 refine a_ (ax_ gc_ rfl rfl) rfl (Z_ bl_ rfl fun b6 => ?_)
 refine Q_ 0 l_ rfl rfl rfl rfl rfl rfl (d_ (b_ rfl (g_ (c_ (a_ (ax_ gc_ rfl rfl) rfl (Z_ bl_ rfl fun b7 => ?_))))))
 refine Q_ 0 l_ rfl rfl rfl rfl rfl rfl (d_ (b_ rfl (g_ (g_ (c_ (a_ (M_ 0 U_ l_ rfl rfl rfl) rfl (be_ aj_ q_ cO_ rfl rfl rfl rfl rfl rfl fun b8 => ?_)))))))
 refine bU_ (List.flatMap dg_ [0]) C_ rfl ?_
 refine a_ (M_ 1 U_ l_ rfl rfl rfl) rfl (be_ ai_ l_ bl_ rfl rfl rfl rfl rfl rfl fun b9 => ?_)
 refine bU_ (List.flatMap Fc.cells [(Fc.mk 3 [65] [] [102] 3 5)]) C_ rfl ?_
 refine K_ (go_ 16 (Fc.mk 3 [65] [] [102] 0 9) [0] (some ⟨b8, 0, none⟩) 1 [(Fc.mk 3 [65] [] [102] 3 5)] (some ⟨b9, 0, none⟩) 1 0 (by decide) (by decide) (fG_ (by decide +kernel)) (by decide) (by decide +kernel)) rfl x_ (fun v _ h => by exact ⟨h.2.1, h.1, h.2.2.2.2.2.2.2.1, trivial⟩) rfl fun _ => ?_
 refine a_ (bu_ rfl) rfl (a_ (f_ rfl) rfl (i_ rfl rfl (a_ (M_ 1 U_ l_ rfl rfl rfl) rfl (i_ rfl rfl (be_ aj_ q_ cO_ rfl rfl rfl rfl rfl rfl fun b10 => ?_)))))
 refine bU_ (List.flatMap dg_ [0]) C_ rfl ?_
 refine i_ rfl rfl (a_ (M_ 0 U_ l_ rfl rfl rfl) rfl (i_ rfl rfl (be_ ai_ l_ bl_ rfl rfl rfl rfl rfl rfl fun b11 => ?_)))
 refine bU_ (List.flatMap Fc.cells [(Fc.mk 3 [65] [] [102] 0 9)]) C_ rfl ?_
 refine i_ rfl rfl (K_ (go_ 16 (Fc.mk 3 [65] [] [102] 3 5) [0] (some ⟨b10, 0, none⟩) 1 [(Fc.mk 3 [65] [] [102] 0 9)] (some ⟨b11, 0, none⟩) 1 120 (by decide) (by decide) (fG_ (by decide +kernel)) (by decide) (by decide +kernel)) rfl x_ (fun v _ h => by exact ⟨h.2.1, h.1, h.2.2.2.2.2.2.2.2.2.1, trivial⟩) rfl fun _ => ?_)
 refine i_ rfl rfl (a_ (bu_ rfl) rfl (a_ (t_ rfl rfl) rfl (d_ (b_ rfl (A_ rfl (J_ (b_ rfl (g_ (c_ ?_)))))))))
 refine K_ (ih_ [42] [42]) rfl x_ (fun _ _ _ => by exact trivial) rfl fun _ => ?_
 refine a_ (ax_ lt_ rfl rfl) rfl (be_ af_ ak_ bb_ rfl rfl rfl rfl rfl rfl fun b12 => ?_)
 refine bU_ (List.flatMap Stp.cells [(Stp.mk 1 (aL_ [42] [42]) (-1) none 0 ([] : List Int))]) C_ rfl ?_
 refine a_ (ax_ hH_ rfl rfl) rfl (Z_ ca_ rfl fun b13 => ?_)
 refine Q_ 0 aO_ rfl rfl rfl rfl rfl rfl (d_ (b_ rfl (g_ (c_ (a_ (ax_ hH_ rfl rfl) rfl (K_ (iq_ [] none 0 [0, 0, 0, 0] 0 sn_e0 (by decide) (by decide) (by decide)) rfl x_ (fun v _ h => by exact ⟨(.inl rfl), eo_, trivial⟩) rfl fun ⟨⟨sve1, He1⟩, he1⟩ => ?_))))))
 dsimp only
 refine as_ iT_ (cf_ he1 bM_ fun ea1 ec1 hea1 hcea1 hmea1 hzea1 => ?_)
 subst hea1
 refine a_ (f_ rfl) rfl (a_ (V_ rfl rfl) rfl (a_ (V_ rfl rfl) rfl (a_ (e_ rfl) rfl (a_ (e_ rfl) rfl (d_ (b_ rfl (g_ (c_ (a_ (M_ 0 bN_ aO_ rfl rfl rfl) rfl ?_)))))))))
 refine K_ (iq_ [eW_] (some ⟨b12, 0, none⟩) 1 (dm_ [eW_]).1 0 pY_ (by decide) (by decide) (by decide)) rfl x_ (fun v _ h => by exact ⟨h.2.1, hJ_, trivial⟩) rfl fun ⟨⟨sve2, He2⟩, he2⟩ => ?_
 dsimp only
 refine as_ iT_ (cf_ he2 bM_ fun ea2 ec2 hea2 hcea2 hmea2 hzea2 => ?_)
 subst hea2
 refine a_ (f_ rfl) rfl (a_ (V_ rfl rfl) rfl (a_ (V_ rfl rfl) rfl (a_ (e_ rfl) rfl (a_ (e_ rfl) rfl (d_ (b_ rfl (g_ (c_ (a_ (f_ rfl) rfl ?_)))))))))
 refine K_ (fH_ ((dm_ [eW_]).1) ea2 ec2 ⟨hcea2, hmea2, hzea2⟩) rfl x_ (fun v _ h => by exact ⟨h.1, trivial⟩) rfl fun ⟨⟨⟨Y1, ya1, yc1⟩, ye1⟩, hD1, hY1, hM1, hZ1⟩ => ?_
 dsimp only
 dsimp only at hD1 hY1 hM1 hZ1
 obtain ⟨rfl, hS1⟩ := sn_d1 hD1; have hl1 := hS1.len
 refine a_ (f_ rfl) rfl (a_ (V_ rfl rfl) rfl (a_ (V_ rfl rfl) rfl (Z_ ca_ rfl fun b14 => ?_)))
 refine Q_ 0 aO_ rfl rfl rfl rfl rfl rfl (a_ (e_ rfl) rfl (d_ (b_ rfl (g_ (c_ (be_ aE_ cI_ lT_ rfl rfl rfl rfl rfl rfl fun b15 => ?_))))))
 refine bU_ (List.flatMap u8C [(0 : UInt8)]) C_ rfl ?_
 refine K_ (fH_ [(0 : UInt8)] (some ⟨b15, 0, none⟩) 1 ⟨Nat.le_refl _, (show 1 ≤ maxLen by decide), fun q => by cases q⟩) rfl x_ (fun v _ h => by exact ⟨h.1, trivial⟩) rfl fun ⟨⟨⟨Y2, ya2, yc2⟩, ye2⟩, hD2, hY2, hM2, hZ2⟩ => ?_
 dsimp only
 dsimp only at hD2 hY2 hM2 hZ2
 obtain rfl := sn_d0 hD2
 refine a_ (f_ rfl) rfl (a_ (V_ rfl rfl) rfl (a_ (V_ rfl rfl) rfl (Z_ ca_ rfl fun b16 => ?_)))
 refine Q_ 0 aO_ rfl rfl rfl rfl rfl rfl (a_ (e_ rfl) rfl (d_ (b_ rfl (g_ (g_ ?_)))))
 refine aW_ (by kernel_rfl) ?_
 refine P_ 36 [1] (by kernel_rfl) (fun _ a b => ⟨a, b⟩) (m_ rfl (M_ 2 bN_ aO_ rfl rfl rfl) rfl (O_ (L_ 0 rfl (by kernel_rfl) (K_ (ih_ [42] [42]) rfl x_ (fun _ _ _ => by exact trivial) rfl fun _ => ?_))))
 refine d_ (p_ rfl (D_ (fun _ a b => ⟨a, b⟩) (L_ 2 rfl (by kernel_rfl) (K_ (jq_ [] none 0 (aL_ [42] [42]) [eW_] (some ⟨b12, 0, none⟩) 1 (by decide) (fun x hx => by simp at hx) (by decide) (by decide) (by decide)) rfl x_ (fun v _ h => by exact ⟨.inl rfl, h.2.2.2.2.2.2.2.1, hJ_, h.2.2.2.2.2.2.2.2.2.2.2.2.2.2.2.2.2.1, trivial⟩) rfl fun ⟨ce1, hC1⟩ => ?_))))
 dsimp only
 try dsimp only at hC1
 obtain rfl := sn_c1 hC1
 refine d_ (p_ rfl (D_ (fun _ a b => ⟨a, b⟩) (P_ 31 [3, 4, 6] (by kernel_rfl) (fun _ a b => ⟨a, b⟩) (m_ rfl (ch_ (bF_ rfl rfl) (show _ = Value.bool false from congrArg Value.bool (by decide))) rfl (m_ rfl (f_ rfl) rfl (r_ rfl rfl rfl (ax_ hH_ rfl rfl) rfl (O_ (L_ 5 rfl (by kernel_rfl) (i_ rfl rfl ?_)))))))))
 refine K_ (ih_ [42] [42]) rfl x_ (fun _ _ _ => by exact trivial) rfl fun _ => ?_
 refine d_ (p_ rfl (D_ (fun _ a b => ⟨a, b⟩) (L_ 7 rfl (by kernel_rfl) (i_ rfl rfl (K_ (jq_ [] none 0 (aL_ [42] [42]) [] none 0 (by decide) (fun x hx => by simp at hx) (by decide) (by decide) (by decide)) rfl x_ (fun v _ h => by exact ⟨.inl rfl, (.inl rfl), eo_, h.2.2.2.2.2.2.2.2.2.2.2.2.2.2.2.2.2.1, trivial⟩) rfl fun ⟨ce2, hC2⟩ => ?_)))))
 dsimp only
 try dsimp only at hC2
 obtain rfl := sn_c2 hC2
 refine d_ (p_ rfl (D_ (fun _ a b => ⟨a, b⟩) (P_ 21 [8, 9, 10, 11, 12, 13, 14, 15] (by kernel_rfl) (fun _ a b => ⟨a, b⟩) (r_ rfl rfl rfl (ch_ (bF_ rfl rfl) (show _ = Value.bool false from congrArg Value.bool (by decide))) rfl (m_ rfl (t_ rfl rfl) rfl (m_ rfl (f_ rfl) rfl (r_ rfl rfl rfl (f_ rfl) rfl (r_ rfl rfl rfl (ei_ bS_ bx_ bR_ rfl (fun v _ h => by exact h.2.2.2.2.2.2.1)) rfl ?_))))))))
 refine az_ rfl rfl rfl (fv_ rfl rfl) rfl fun r1 hr1 => ?_
 refine m_ rfl (t_ rfl rfl) rfl (m_ rfl (f_ rfl) rfl (O_ ?_))
 cases r1
 ·
  replace hr1 := bw_ hr1
  refine P_ 11 [16, 17, 18, 19, 20, 21, 22, 23, 24, 25] (by kernel_rfl) (fun _ a b => ⟨a, b⟩) (r_ rfl rfl rfl (f_ rfl) rfl (r_ rfl rfl rfl (ch_ (bF_ rfl rfl) (show _ = Value.bool false from congrArg Value.bool (by decide))) rfl (m_ rfl (t_ rfl rfl) rfl (m_ rfl (f_ rfl) rfl (r_ rfl rfl rfl (f_ rfl) rfl (r_ rfl rfl rfl (ch_ (bF_ rfl rfl) (show _ = Value.bool false from congrArg Value.bool (by decide))) rfl (m_ rfl (t_ rfl rfl) rfl (m_ rfl (f_ rfl) rfl (r_ rfl rfl rfl (M_ 1 bN_ aO_ rfl rfl rfl) rfl ?_)))))))))
  refine r_ rfl rfl rfl (M_ 2 bN_ aO_ rfl rfl rfl) rfl (O_ (L_ 26 rfl (by kernel_rfl) (i_ rfl rfl (K_ (hu_ Y1 ya1 yc1 [eW_] (some ⟨b12, 0, none⟩) 1 hS1 (by rw [hl1]; decide) (fun s hs => nJ_ hS1 (by decide) s hs)) rfl x_ (fun v _ h => by exact ⟨h.2.2.2.1, h.2.2.2.2.1, h.2.2.2.2.2.2.2.1, hJ_, trivial⟩) rfl fun _ => ?_))))
  refine d_ (p_ rfl (D_ (fun _ a b => ⟨a, b⟩) (P_ 0 [27, 28, 29, 30, 31, 32, 33, 34, 35, 36] (by kernel_rfl) (fun _ a b => ⟨a, b⟩) (r_ rfl rfl rfl (bu_ rfl) rfl (m_ rfl (t_ rfl rfl) rfl (m_ rfl (f_ rfl) rfl (r_ rfl rfl rfl (f_ rfl) rfl (r_ rfl rfl rfl (ch_ (bF_ rfl rfl) (show _ = Value.bool false from congrArg Value.bool (by decide))) rfl (m_ rfl (t_ rfl rfl) rfl ?_)))))))))
  refine m_ rfl (f_ rfl) rfl (r_ rfl rfl rfl (f_ rfl) rfl (r_ rfl rfl rfl (ch_ (bF_ rfl rfl) (show _ = Value.bool false from congrArg Value.bool (by decide))) rfl (m_ rfl (t_ rfl rfl) rfl (O_ (T_ (by kernel_rfl) (b_ rfl (A_ rfl (J_ (b_ rfl ?_)))))))))
  refine g_ (c_ (a_ (ax_ strt58 rfl rfl) rfl (K_ (src0_c (Ax.mk 7 false (Con.mk 0 [] 0 0 none 0 []) (Con.mk 0 [] 0 0 none 0 []) none 0 [] [114] [] []) ok_ax7 oy_ rfl) rfl x_ (fun v _ h => by exact ⟨pm_, h.2.2.2.2.2.2.2.2.2.2.2.2.2.2.2.2.2.2.1, trivial⟩) rfl fun _ => ?_)))
  refine a_ (ch_ (aG_ rfl rfl) (show _ = Value.bool true from congrArg Value.bool (by decide))) rfl (a_ (e_ rfl) rfl (d_ (b_ rfl (u_ ?_))))
  exact Y_ Tryz.results9 () rfl x_ (fun _ _ _ => trivial)
 ·
  replace hr1 := bv_ hr1
  exact absurd rfl hr1
end Go.Proofs.YtaffcjgphlhppaaGreatDoor
namespace Go.Proofs.YtaffcjgphlhppaaGreatDoor
open Go Go.Sx Go.Proofs
attribute [local irreducible] Code.wp wpList wpAnyH
open Go.Vs
theorem hB_ (n : Int) : IntKind.wrap .u8 n = ((UInt8.ofNat (Go.Vs.bits n / 256 ^ 0)).toNat : Int) := by
  have h0 : (0 : Int) ≤ n % 18446744073709551616 := Int.emod_nonneg _ (by decide)
  have e : (Go.Vs.bits n : Int) = n % 18446744073709551616 := Int.toNat_of_nonneg h0
  have e2 : ((UInt8.ofNat (Go.Vs.bits n / 256 ^ 0)).toNat : Int) = (Go.Vs.bits n : Int) % 256 := by simp
  rw [e2, e]
  show (if (false && decide (n % 2 ^ 8 ≥ 2 ^ 7)) = true then n % 2 ^ 8 - 2 ^ 8 else n % 2 ^ 8) = _
  rw [if_neg (by simp)]
  show n % 256 = _
  omega
theorem nf_ {l : List Stp} {i : Nat} {s : Stp} {tk : List Int} (hs : l[i]? = some s) (hk : tk = s.frm) (A : Str) :
    (((((((((A ++ List.flatMap bL_ (List.take i l)) ++ [(UInt8.ofNat (Go.Vs.bits s.rule / 256 ^ 0)), (UInt8.ofNat (Go.Vs.bits s.fact.kind / 256 ^ 0))]) ++ aF_ s.fact.a) ++ aF_ s.fact.b) ++ aF_ s.fact.r) ++ ac_ s.fact.lo 8) ++ ac_ s.fact.hi 8) ++ ac_ (s.piece + 1) 4) ++ [(UInt8.ofNat (Go.Vs.bits (s.frm.length : Int) / 256 ^ 0))]) ++ List.flatMap (fun q => ac_ q 4) tk = A ++ List.flatMap bL_ (List.take (i + 1) l) := by
  subst hk
  rw [List.take_add_one, hs]
  simp [bL_, ac_, List.append_assoc]
theorem ng_ {l : List Stp} {i : Nat} (h : ∀ s ∈ List.take i l, dI_ s = true) : ((l.take i).flatMap bL_).length ≤ 198000 * i := by
  have := ir_ h i
  rwa [List.take_take, Nat.min_self] at this
theorem gP_ (n : Int) (k : Nat) (hk : k ≤ 8) : Tri Tryz.prog 38 #[.int .u64 (Go.Vs.bits n : Int), .int .i64 (k : Int)] [] [] (fun y : {y : Value × Hp // bi_ 5 1 y.1 (List.length (ac_ n k)) (List.flatMap u8C (ac_ n k)) y.2} => y.1.1) (fun y => y.1.2) (fun _ => []) := by
  refine S_ Tryz.func38 rfl rfl Tryz.ntmps38 rfl fun v0 => ?_
  refine g_ (c_ (a_ (e_ rfl) rfl (d_ (b_ rfl (g_ (c_ (a_ (e_ rfl) rfl (d_ (b_ rfl ?_)))))))))
  refine g_ (g_ (c_ (a_ (f_ rfl) rfl (a_ (ag_ rfl rfl rfl (aS_ (by omega) (by omega))) rfl (a_ (e_ rfl) rfl (d_ (b_ rfl (ae_ ?_))))))))
  refine bt_ (ι := {y : Nat × Str × Value × Hp // y.1 ≤ k ∧ ac_ n k = y.2.1 ++ ac_ n y.1 ∧ bi_ 5 1 y.2.2.1 (List.length y.2.1) (List.flatMap u8C y.2.1) y.2.2.2}) (fun y => [(5, y.1.2.2.1), (0, .int .u64 (Go.Vs.bits n : Int)), (6, .int .i64 ((y.1.1 : Int) - 1))]) (fun y => (y.1.2.2.2)) (fun y => []) (fun y => y.1.1) ⟨(k, ([] : Str), (.slice none 0 0), []), Nat.le_refl _, rfl, (bi_.nil 5 1)⟩ ⟨rfl, rfl, rfl, trivial⟩ x_ (fun _ _ _ => trivial) ?_
  rintro ⟨⟨j, l, sv_B, H_B⟩, hj, hl, hr_B⟩
  dsimp only at hj hl hr_B ⊢
  refine g_ (g_ (c_ (a_ (f_ rfl) rfl (E_ (cw_ rfl rfl) rfl fun r1 hr1 => ?_))))
  refine d_ (b_ rfl ?_)
  cases r1
  · skip
    replace hr1 := of_decide_eq_false hr1
    obtain rfl : j = 0 := by omega
    simp only [ac_, List.append_nil] at hl
    refine A_ rfl (bj_ rfl (b_ rfl (g_ (c_ (a_ (f_ rfl) rfl (a_ (e_ rfl) rfl (d_ (b_ rfl (u_ ?_)))))))))
    exact Y_ Tryz.results38 ⟨(sv_B, H_B), by rw [hl]; exact hr_B⟩ rfl cM_ (fun _ _ _ => trivial)
  · skip
    replace hr1 := of_decide_eq_true hr1
    obtain ⟨i, rfl⟩ : ∃ i, j = i + 1 := ⟨j - 1, by omega⟩
    refine w_ rfl (J_ (b_ rfl (g_ (ae_ (c_ (a_ (f_ rfl) rfl (a_ (f_ rfl) rfl (a_ (f_ rfl) rfl (a_ (ch_ (ag_ rfl rfl rfl (aS_ (by omega) (by omega))) (show _ = Value.int .i64 (8 * (i : Int)) by congr 1; omega)) rfl ?_)))))))))
    refine a_ (kg_ (m := Go.Vs.bits n) (i := i) rfl rfl (by omega)) rfl (a_ (bZ_ aZ_ bx_ rfl (lW_ _)) rfl (be_ aE_ cI_ lT_ rfl rfl rfl rfl rfl rfl fun b1 => ?_))
    refine bC_ (news := List.flatMap u8C [(UInt8.ofNat (Go.Vs.bits n / 256 ^ i))]) eB_ hr_B rfl rfl aK_ rfl (ce_ 0 rfl) (fun u hu => bH_ dJ_ hu) (by simp only [maxLen]; (have z := congrArg List.length hl; simp only [List.length_append, bf_, List.length_cons, List.length_nil] at z ⊢; omega)) (by (have z := congrArg List.length hl; simp only [List.length_append, bf_, List.length_cons, List.length_nil] at z ⊢; omega)) rfl fun sv1 Hr1 hr1 => ?_
    refine as_ List.perm_append_comm ?_
    have hq1 : bi_ 5 1 sv1 (List.length (l ++ [(UInt8.ofNat (Go.Vs.bits n / 256 ^ i))])) (List.flatMap u8C (l ++ [(UInt8.ofNat (Go.Vs.bits n / 256 ^ i))])) Hr1 := by rw [List.length_append, List.flatMap_append]; exact hr1
    refine a_ (e_ rfl) rfl (d_ (b_ rfl (c_ (a_ (f_ rfl) rfl (a_ (ag_ rfl rfl rfl (aS_ (by omega) (by omega))) rfl (a_ (e_ rfl) rfl (d_ (p_ rfl ?_))))))))
    exact aU_ ⟨(i, (l ++ [(UInt8.ofNat (Go.Vs.bits n / 256 ^ i))]), sv1, Hr1), (by omega), (by rw [hl]; simp [ac_]), hq1⟩ (by dsimp only; omega) ⟨rfl, rfl, (congrArg some (congrArg (Value.int .i64) (by dsimp only; omega))), trivial⟩ aK_ (fun _ _ _ => trivial)
theorem jD_ (s : Str) (hs : s.length ≤ 140737488355000) : Tri Tryz.prog 40 #[str s] [] [] (fun y : {y : Value × Hp // bi_ 5 1 y.1 (List.length (aF_ s)) (List.flatMap u8C (aF_ s)) y.2} => y.1.1) (fun y => y.1.2) (fun _ => []) := by
  refine S_ Tryz.func40 rfl rfl Tryz.ntmps40 rfl fun v0 => ?_
  refine g_ (c_ (a_ (e_ rfl) rfl (d_ (b_ rfl (g_ (c_ (a_ (f_ rfl) rfl (a_ (cd_ aa_ rfl) rfl (a_ (bZ_ aT_ aZ_ rfl (dR_ (s.length : Int))) rfl ?_)))))))))
  refine K_ (gP_ (s.length : Int) 2 (by decide)) rfl x_ (fun _ _ _ => by exact trivial) rfl fun ⟨⟨svn1, Hn1⟩, hn1⟩ => ?_
  dsimp only
  refine as_ pi_ (a_ (f_ rfl) rfl (fY_ oB_ hn1 rfl rfl cM_ (by simp only [List.length_append, bf_, List.length_nil]; omega) rfl fun sv1 Hr1 hr1 => ?_))
  refine as_ List.perm_append_comm (a_ (e_ rfl) rfl (d_ (b_ rfl (u_ ?_))))
  exact Y_ Tryz.results40 ⟨(sv1, Hr1), hr1⟩ rfl cM_ (fun _ _ _ => trivial)
theorem rEnc_c (s : Stp) (hfr : s.frm.length ≤ 1000000) (hsf : s.fact.sml) : Tri Tryz.prog 39 #[Stp.val s] [] [aY_ (Stp.ad s) (List.flatMap dg_ (Stp.frm s))] (fun _ : Unit => .bool (dI_ s)) (fun _ => []) (fun _ => []) := by
 refine S_ Tryz.func39 rfl rfl Tryz.ntmps39 rfl fun v0 => ?_
 obtain ⟨hsa, hsb, hsr⟩ := hsf
 refine g_ (c_ (aM_ rfl rfl fun b1 => ?_))
 refine a_ (e_ rfl) rfl (d_ (b_ rfl (g_ (g_ (c_ (a_ (h_ G_ rfl rfl rfl q_) rfl (a_ (n_ 0 B_ rfl rfl rfl) rfl (E_ (au_ rfl rfl) rfl fun r1 hr1 => ?_))))))))
 refine a_ (f_ rfl) rfl ?_
 cases r1
 ·
  replace hr1 := of_decide_eq_false hr1
  refine i_ rfl rfl (a_ (h_ G_ rfl rfl rfl q_) rfl (i_ rfl rfl (a_ (n_ 0 B_ rfl rfl rfl) rfl (i_ rfl rfl (E_ (bp_ rfl rfl) rfl fun r2 hr2 => ?_)))))
  refine a_ (t_ rfl rfl) rfl (a_ (f_ rfl) rfl ?_)
  cases r2
  ·
   replace hr2 := of_decide_eq_false hr2
   refine i_ rfl rfl (a_ (h_ G_ rfl rfl rfl l_) rfl (i_ rfl rfl (a_ (h_ o_ rfl rfl rfl q_) rfl (i_ rfl rfl (a_ (n_ 0 B_ rfl rfl rfl) rfl (i_ rfl rfl (E_ (au_ rfl rfl) rfl fun r3 hr3 => ?_)))))))
   refine a_ (t_ rfl rfl) rfl (a_ (f_ rfl) rfl ?_)
   cases r3
   ·
    replace hr3 := of_decide_eq_false hr3
    refine i_ rfl rfl (a_ (h_ G_ rfl rfl rfl l_) rfl (i_ rfl rfl (a_ (h_ o_ rfl rfl rfl q_) rfl (i_ rfl rfl (a_ (n_ 0 B_ rfl rfl rfl) rfl (i_ rfl rfl (E_ (bp_ rfl rfl) rfl fun r4 hr4 => ?_)))))))
    refine a_ (t_ rfl rfl) rfl (a_ (f_ rfl) rfl ?_)
    cases r4
    ·
     replace hr4 := of_decide_eq_false hr4
     refine i_ rfl rfl (a_ (h_ G_ rfl rfl rfl q_) rfl (i_ rfl rfl (a_ (n_ 0 B_ rfl rfl rfl) rfl (i_ rfl rfl (E_ (au_ rfl rfl) rfl fun r5 hr5 => ?_)))))
     refine a_ (t_ rfl rfl) rfl (a_ (f_ rfl) rfl ?_)
     cases r5
     ·
      replace hr5 := of_decide_eq_false hr5
      refine i_ rfl rfl (a_ (h_ G_ rfl rfl rfl q_) rfl (i_ rfl rfl (a_ (n_ 0 B_ rfl rfl rfl) rfl (i_ rfl rfl (E_ (bp_ rfl rfl) rfl fun r6 hr6 => ?_)))))
      refine a_ (t_ rfl rfl) rfl (a_ (f_ rfl) rfl ?_)
      cases r6
      ·
       replace hr6 := of_decide_eq_false hr6
       refine i_ rfl rfl (a_ (h_ G_ rfl rfl rfl bc_) rfl (i_ rfl rfl (a_ (n_ 0 bz_ rfl rfl rfl) rfl (i_ rfl rfl (a_ (aA_ aj_ rfl) rfl (i_ rfl rfl (E_ (bp_ rfl rfl) rfl fun r7 hr7 => ?_)))))))
       refine a_ (t_ rfl rfl) rfl (d_ (b_ rfl ?_))
       cases r7
       ·
        replace hr7 := of_decide_eq_false hr7
        refine A_ rfl (J_ (b_ rfl (g_ (g_ (c_ (a_ (e_ rfl) rfl (d_ (b_ rfl (ae_ ?_)))))))))
        refine bt_ (ι := {y : Nat // y ≤ List.length (Stp.frm s) ∧ (∀ u ∈ List.take y (Stp.frm s), 0 ≤ u ∧ u ≤ 2147483647)}) (fun y => [(1, zp_ b1 0), (2, .bool false), (3, .int .i64 (y.1 : Int))]) (fun y => ((b1, .cells #[.int .i64 (Stp.rule s), .int .i64 (Fc.kind (Stp.fact s)), str (Fc.a (Stp.fact s)), str (Fc.b (Stp.fact s)), str (Fc.r (Stp.fact s)), .int .i64 (Fc.lo (Stp.fact s)), .int .i64 (Fc.hi (Stp.fact s)), .int .i64 (Stp.piece s), .slice (Stp.ad s) (List.length (Stp.frm s)) (Stp.cap s)] 36 (0, 0)) :: [])) (fun y => [aY_ (Stp.ad s) (List.flatMap dg_ (Stp.frm s))]) (fun y => List.length (Stp.frm s) - y.1) ⟨(0 : Nat), by simp, by simp⟩ ⟨rfl, rfl, rfl, trivial⟩ C_ (fun _ _ h => h) ?_
        rintro ⟨i, hi_i, hA⟩
        dsimp only at hi_i hA ⊢
        refine g_ (g_ (c_ (a_ (f_ rfl) rfl (a_ (h_ G_ rfl rfl rfl bc_) rfl (a_ (n_ 0 bz_ rfl rfl rfl) rfl (a_ (aA_ aj_ rfl) rfl (E_ (au_ rfl rfl) rfl fun r8 hr8 => ?_)))))))
        refine d_ (b_ rfl ?_)
        cases r8
        ·
         replace hr8 := of_decide_eq_false hr8
         refine A_ rfl (bj_ rfl (b_ rfl (g_ (c_ (a_ (h_ G_ rfl rfl rfl l_) rfl (a_ (h_ o_ rfl rfl rfl y_) rfl (a_ (n_ 0 H_ rfl rfl rfl) rfl (a_ (cd_ aa_ rfl) rfl (E_ (cb_ rfl rfl) rfl fun r9 hr9 => ?_)))))))))
         refine a_ (f_ rfl) rfl ?_
         cases r9
         ·
          replace hr9 := of_decide_eq_false hr9
          refine k_ rfl rfl rfl rfl (k_ rfl rfl rfl rfl (k_ rfl rfl rfl rfl (k_ rfl rfl rfl rfl (k_ rfl rfl rfl rfl (a_ (t_ rfl rfl) rfl (a_ (f_ rfl) rfl (k_ rfl rfl rfl rfl (k_ rfl rfl rfl rfl (k_ rfl rfl rfl rfl ?_)))))))))
          refine k_ rfl rfl rfl rfl (k_ rfl rfl rfl rfl (a_ (t_ rfl rfl) rfl (a_ (e_ rfl) rfl (d_ (b_ rfl (u_ ?_))))))
          exact Y_ cK_ () (s_ rfl (cr_ fun q => by obtain ⟨q1, q2, q3, q4, q5, q6, q7, _, q8, q9, q10⟩ := q; omega)) x_ (fun _ _ _ => trivial)
         ·
          replace hr9 := of_decide_eq_true hr9
          refine i_ rfl rfl (a_ (h_ G_ rfl rfl rfl l_) rfl (i_ rfl rfl (a_ (h_ o_ rfl rfl rfl y_) rfl (i_ rfl rfl (a_ (n_ 0 H_ rfl rfl rfl) rfl (i_ rfl rfl (a_ (cd_ aa_ rfl) rfl (i_ rfl rfl (E_ (cb_ rfl rfl) rfl fun r10 hr10 => ?_)))))))))
          refine a_ (v_ rfl rfl) rfl (a_ (f_ rfl) rfl ?_)
          cases r10
          ·
           replace hr10 := of_decide_eq_false hr10
           refine k_ rfl rfl rfl rfl (k_ rfl rfl rfl rfl (k_ rfl rfl rfl rfl (k_ rfl rfl rfl rfl (k_ rfl rfl rfl rfl (a_ (t_ rfl rfl) rfl (a_ (e_ rfl) rfl (d_ (b_ rfl (u_ ?_)))))))))
           exact Y_ cK_ () (s_ rfl (cr_ fun q => by obtain ⟨q1, q2, q3, q4, q5, q6, q7, _, q8, q9, q10⟩ := q; omega)) x_ (fun _ _ _ => trivial)
          ·
           replace hr10 := of_decide_eq_true hr10
           refine i_ rfl rfl (a_ (h_ G_ rfl rfl rfl l_) rfl (i_ rfl rfl (a_ (h_ o_ rfl rfl rfl y_) rfl (i_ rfl rfl (a_ (n_ 0 H_ rfl rfl rfl) rfl (i_ rfl rfl (a_ (cd_ aa_ rfl) rfl (i_ rfl rfl (E_ (cb_ rfl rfl) rfl fun r11 hr11 => ?_)))))))))
           refine a_ (v_ rfl rfl) rfl (a_ (e_ rfl) rfl (d_ (b_ rfl (u_ ?_))))
           exact Y_ cK_ () (s_ rfl (hr11.symm.trans (jl_ (s := s) (by omega) (by omega) (by omega) (by omega) (by omega) (by omega) (by omega) (by have z := hA; rw [List.take_of_length_le (by omega)] at z; exact z) (by omega) (by omega)).symm)) x_ (fun _ _ _ => trivial)
        ·
         replace hr8 := of_decide_eq_true hr8
         have hlx1 : i < List.length (Stp.frm s) := by omega
         obtain ⟨x1, hx1⟩ : ∃ e0, (Stp.frm s)[i]? = some e0 := ⟨_, List.getElem?_eq_getElem hlx1⟩
         have hmx1 : x1 ∈ (Stp.frm s) := List.mem_of_getElem? hx1
         refine w_ rfl (J_ (b_ rfl (g_ (ae_ (g_ (c_ (a_ (h_ G_ rfl rfl rfl bc_) rfl (a_ (n_ 0 bz_ rfl rfl rfl) rfl (a_ (f_ rfl) rfl ?_)))))))))
         refine a_ (an_ aj_ q_ rfl rfl (fun v _ h => ba_ (n := 1) cu_ (by decide) (by exact h.1) hx1) (by omega) (by first | omega | (simp; done))) rfl (a_ (bE_ (ad := (Stp.ad s)) B_ rfl (fun v _ h => by exact h.1) (ar_ cu_ hx1 0 _ rfl)) rfl (E_ (au_ rfl rfl) rfl fun r12 hr12 => ?_))
         refine a_ (f_ rfl) rfl ?_
         cases r12
         ·
          replace hr12 := of_decide_eq_false hr12
          refine i_ rfl rfl (a_ (h_ G_ rfl rfl rfl bc_) rfl (i_ rfl rfl (a_ (n_ 0 bz_ rfl rfl rfl) rfl (i_ rfl rfl (a_ (f_ rfl) rfl (i_ rfl rfl (a_ (an_ aj_ q_ rfl rfl (fun v _ h => ba_ (n := 1) cu_ (by decide) (by exact h.1) hx1) (by omega) (by first | omega | (simp; done))) rfl (i_ rfl rfl (a_ (bE_ (ad := (Stp.ad s)) B_ rfl (fun v _ h => by exact h.1) (ar_ cu_ hx1 0 _ rfl)) rfl ?_)))))))))
          refine i_ rfl rfl (E_ (bp_ rfl rfl) rfl fun r13 hr13 => ?_)
          refine a_ (t_ rfl rfl) rfl (d_ (b_ rfl ?_))
          cases r13
          ·
           replace hr13 := of_decide_eq_false hr13
           refine A_ rfl (J_ (b_ rfl (c_ (a_ (f_ rfl) rfl (a_ (ag_ rfl rfl rfl (aS_ (by omega) (by omega))) rfl (a_ (e_ rfl) rfl (d_ (p_ rfl ?_))))))))
           exact aU_ ⟨i + 1, hlx1, fun u hu => by rw [List.take_add_one, hx1] at hu; rcases List.mem_append.1 hu with z | z; exact hA u z; simp only [Option.toList_some, List.mem_singleton] at z; subst z; constructor <;> omega⟩ (by dsimp only; omega) ⟨rfl, rfl, rfl, trivial⟩ C_ (fun _ _ h => h)
          ·
           replace hr13 := of_decide_eq_true hr13
           refine w_ rfl (g_ (c_ (a_ (e_ rfl) rfl (d_ (b_ rfl (u_ ?_))))))
           exact Y_ cK_ () (s_ rfl (cr_ fun q => by have z := q.2.2.2.2.2.2.2.1 x1 hmx1; omega)) x_ (fun _ _ _ => trivial)
         ·
          replace hr12 := of_decide_eq_true hr12
          refine k_ rfl rfl rfl rfl (k_ rfl rfl rfl rfl (k_ rfl rfl rfl rfl (k_ rfl rfl rfl rfl (k_ rfl rfl rfl rfl (k_ rfl rfl rfl rfl (a_ (v_ rfl rfl) rfl (d_ (b_ rfl (w_ rfl ?_)))))))))
          refine g_ (c_ (a_ (e_ rfl) rfl (d_ (b_ rfl (u_ ?_)))))
          exact Y_ cK_ () (s_ rfl (cr_ fun q => by have z := q.2.2.2.2.2.2.2.1 x1 hmx1; omega)) x_ (fun _ _ _ => trivial)
       ·
        replace hr7 := of_decide_eq_true hr7
        refine w_ rfl (g_ (c_ (a_ (e_ rfl) rfl (d_ (b_ rfl (u_ ?_))))))
        exact Y_ cK_ () (s_ rfl (cr_ fun q => by obtain ⟨q1, q2, q3, q4, q5, q6, q7, _, q8, q9, q10⟩ := q; omega)) x_ (fun _ _ _ => trivial)
      ·
       replace hr6 := of_decide_eq_true hr6
       refine k_ rfl rfl rfl rfl (k_ rfl rfl rfl rfl (k_ rfl rfl rfl rfl (k_ rfl rfl rfl rfl (a_ (v_ rfl rfl) rfl (d_ (b_ rfl (w_ rfl (g_ (c_ ?_)))))))))
       refine a_ (e_ rfl) rfl (d_ (b_ rfl (u_ ?_)))
       exact Y_ cK_ () (s_ rfl (cr_ fun q => by obtain ⟨q1, q2, q3, q4, q5, q6, q7, _, q8, q9, q10⟩ := q; omega)) x_ (fun _ _ _ => trivial)
     ·
      replace hr5 := of_decide_eq_true hr5
      refine k_ rfl rfl rfl rfl (k_ rfl rfl rfl rfl (k_ rfl rfl rfl rfl (a_ (v_ rfl rfl) rfl (a_ (f_ rfl) rfl (k_ rfl rfl rfl rfl (k_ rfl rfl rfl rfl (k_ rfl rfl rfl rfl (k_ rfl rfl rfl rfl (a_ (v_ rfl rfl) rfl ?_)))))))))
      refine d_ (b_ rfl (w_ rfl (g_ (c_ (a_ (e_ rfl) rfl (d_ (b_ rfl (u_ ?_))))))))
      exact Y_ cK_ () (s_ rfl (cr_ fun q => by obtain ⟨q1, q2, q3, q4, q5, q6, q7, _, q8, q9, q10⟩ := q; omega)) x_ (fun _ _ _ => trivial)
    ·
     replace hr4 := of_decide_eq_true hr4
     refine k_ rfl rfl rfl rfl (k_ rfl rfl rfl rfl (k_ rfl rfl rfl rfl (a_ (v_ rfl rfl) rfl (a_ (f_ rfl) rfl (k_ rfl rfl rfl rfl (k_ rfl rfl rfl rfl (k_ rfl rfl rfl rfl (a_ (v_ rfl rfl) rfl (a_ (f_ rfl) rfl ?_)))))))))
     refine k_ rfl rfl rfl rfl (k_ rfl rfl rfl rfl (k_ rfl rfl rfl rfl (k_ rfl rfl rfl rfl (a_ (v_ rfl rfl) rfl (d_ (b_ rfl (w_ rfl (g_ (c_ ?_)))))))))
     refine a_ (e_ rfl) rfl (d_ (b_ rfl (u_ ?_)))
     exact Y_ cK_ () (s_ rfl (cr_ fun q => by obtain ⟨q1, q2, q3, q4, q5, q6, q7, _, q8, q9, q10⟩ := q; omega)) x_ (fun _ _ _ => trivial)
   ·
    replace hr3 := of_decide_eq_true hr3
    refine k_ rfl rfl rfl rfl (k_ rfl rfl rfl rfl (k_ rfl rfl rfl rfl (k_ rfl rfl rfl rfl (a_ (v_ rfl rfl) rfl (a_ (f_ rfl) rfl (k_ rfl rfl rfl rfl (k_ rfl rfl rfl rfl (k_ rfl rfl rfl rfl (a_ (v_ rfl rfl) rfl ?_)))))))))
    refine a_ (f_ rfl) rfl (k_ rfl rfl rfl rfl (k_ rfl rfl rfl rfl (k_ rfl rfl rfl rfl (a_ (v_ rfl rfl) rfl (a_ (f_ rfl) rfl (k_ rfl rfl rfl rfl (k_ rfl rfl rfl rfl (k_ rfl rfl rfl rfl (k_ rfl rfl rfl rfl ?_)))))))))
    refine a_ (v_ rfl rfl) rfl (d_ (b_ rfl (w_ rfl (g_ (c_ (a_ (e_ rfl) rfl (d_ (b_ rfl (u_ ?_)))))))))
    exact Y_ cK_ () (s_ rfl (cr_ fun q => by obtain ⟨q1, q2, q3, q4, q5, q6, q7, _, q8, q9, q10⟩ := q; omega)) x_ (fun _ _ _ => trivial)
  ·
   replace hr2 := of_decide_eq_true hr2
   refine k_ rfl rfl rfl rfl (k_ rfl rfl rfl rfl (k_ rfl rfl rfl rfl (k_ rfl rfl rfl rfl (a_ (v_ rfl rfl) rfl (a_ (f_ rfl) rfl (k_ rfl rfl rfl rfl (k_ rfl rfl rfl rfl (k_ rfl rfl rfl rfl (k_ rfl rfl rfl rfl ?_)))))))))
   refine a_ (v_ rfl rfl) rfl (a_ (f_ rfl) rfl (k_ rfl rfl rfl rfl (k_ rfl rfl rfl rfl (k_ rfl rfl rfl rfl (a_ (v_ rfl rfl) rfl (a_ (f_ rfl) rfl (k_ rfl rfl rfl rfl (k_ rfl rfl rfl rfl (k_ rfl rfl rfl rfl ?_)))))))))
   refine a_ (v_ rfl rfl) rfl (a_ (f_ rfl) rfl (k_ rfl rfl rfl rfl (k_ rfl rfl rfl rfl (k_ rfl rfl rfl rfl (k_ rfl rfl rfl rfl (a_ (v_ rfl rfl) rfl (d_ (b_ rfl (w_ rfl ?_)))))))))
   refine g_ (c_ (a_ (e_ rfl) rfl (d_ (b_ rfl (u_ ?_)))))
   exact Y_ cK_ () (s_ rfl (cr_ fun q => by obtain ⟨q1, q2, q3, q4, q5, q6, q7, _, q8, q9, q10⟩ := q; omega)) x_ (fun _ _ _ => trivial)
 ·
  replace hr1 := of_decide_eq_true hr1
  refine k_ rfl rfl rfl rfl (k_ rfl rfl rfl rfl (k_ rfl rfl rfl rfl (a_ (v_ rfl rfl) rfl (a_ (f_ rfl) rfl (k_ rfl rfl rfl rfl (k_ rfl rfl rfl rfl (k_ rfl rfl rfl rfl (k_ rfl rfl rfl rfl (a_ (v_ rfl rfl) rfl ?_)))))))))
  refine a_ (f_ rfl) rfl (k_ rfl rfl rfl rfl (k_ rfl rfl rfl rfl (k_ rfl rfl rfl rfl (k_ rfl rfl rfl rfl (a_ (v_ rfl rfl) rfl (a_ (f_ rfl) rfl (k_ rfl rfl rfl rfl (k_ rfl rfl rfl rfl (k_ rfl rfl rfl rfl ?_)))))))))
  refine a_ (v_ rfl rfl) rfl (a_ (f_ rfl) rfl (k_ rfl rfl rfl rfl (k_ rfl rfl rfl rfl (k_ rfl rfl rfl rfl (a_ (v_ rfl rfl) rfl (a_ (f_ rfl) rfl (k_ rfl rfl rfl rfl (k_ rfl rfl rfl rfl (k_ rfl rfl rfl rfl ?_)))))))))
  refine k_ rfl rfl rfl rfl (a_ (v_ rfl rfl) rfl (d_ (b_ rfl (w_ rfl (g_ (c_ (a_ (e_ rfl) rfl (d_ (b_ rfl ?_)))))))))
  refine u_ ?_
  exact Y_ cK_ () (s_ rfl (cr_ fun q => by obtain ⟨q1, q2, q3, q4, q5, q6, q7, _, q8, q9, q10⟩ := q; omega)) x_ (fun _ _ _ => trivial)
theorem mN_ (l : List Stp) (ad : Option Addr) (cap : Nat) (hll : l.length ≤ 10000000) (hfr : ∀ s ∈ l, s.frm.length ≤ 1000000) (hsf : ∀ s ∈ l, s.fact.sml) : Tri Tryz.prog 16 #[.agg #[.slice ad (List.length l) cap]] [] [aY_ ad (List.flatMap Stp.cells l), cP_ l] (fun y : {y : Value × Hp // bi_ 5 1 y.1 (List.length (dm_ l).1) (List.flatMap u8C (dm_ l).1) y.2} => .tuple #[y.1.1, .int .i64 (dm_ l).2]) (fun y => y.1.2) (fun _ => []) := by
 refine S_ Tryz.func16 rfl rfl Tryz.ntmps16 rfl fun v0 => ?_
 refine g_ (c_ (aM_ rfl rfl fun b1 => ?_))
 refine a_ (e_ rfl) rfl (a_ (e_ rfl) rfl (d_ (b_ rfl (g_ (g_ (c_ (a_ (h_ ab_ rfl rfl rfl al_) rfl (a_ (n_ 0 bd_ rfl rfl rfl) rfl (a_ (aA_ af_ rfl) rfl ?_)))))))))
 refine E_ (bp_ rfl rfl) rfl fun r1 hr1 => ?_
 refine d_ (b_ rfl ?_)
 cases r1
 ·
  replace hr1 := of_decide_eq_false hr1
  refine A_ rfl (J_ (b_ rfl (g_ (c_ (a_ (h_ ab_ rfl rfl rfl al_) rfl (a_ (n_ 0 bd_ rfl rfl rfl) rfl (a_ (aA_ af_ rfl) rfl (a_ (bZ_ aT_ aZ_ rfl (dR_ (List.length l : Int))) rfl (K_ (gP_ (List.length l : Int) 4 (by decide)) rfl x_ (fun _ _ _ => by exact trivial) rfl fun ⟨⟨svn1, Hn1⟩, hn1⟩ => ?_)))))))))
  dsimp only
  refine a_ (e_ rfl) rfl (d_ (b_ rfl (g_ (as_ (eh_ cD_) (g_ (c_ (a_ (e_ rfl) rfl (d_ (b_ rfl ?_)))))))))
  refine ae_ ?_
  have hw1 : bi_ 5 1 svn1 (List.length (ac_ (List.length l : Int) 4 ++ List.flatMap bL_ (List.take 0 l))) (List.flatMap u8C (ac_ (List.length l : Int) 4 ++ List.flatMap bL_ (List.take 0 l))) Hn1 := by have q := hn1; rw [show (ac_ (List.length l : Int) 4) = (ac_ (List.length l : Int) 4 ++ List.flatMap bL_ (List.take 0 l)) from (by simp)] at q; exact q
  refine bt_ (ι := {y : Nat × Value × Hp // y.1 ≤ List.length l ∧ (∀ s ∈ List.take y.1 l, dI_ s = true) ∧ bi_ 5 1 y.2.1 (List.length (ac_ (List.length l : Int) 4 ++ List.flatMap bL_ (List.take y.1 l))) (List.flatMap u8C (ac_ (List.length l : Int) 4 ++ List.flatMap bL_ (List.take y.1 l))) y.2.2}) (fun y => [(1, zp_ b1 0), (2, .slice none 0 0), (3, .int .i64 0), (4, y.1.2.1), (5, .int .i64 (y.1.1 : Int))]) (fun y => ((b1, .cells #[.slice ad (List.length l) cap] 27 (0, 0)) :: y.1.2.2)) (fun y => [aY_ ad (List.flatMap Stp.cells l), cP_ l]) (fun y => List.length l - y.1.1) ⟨((0 : Nat), svn1, Hn1), by simp, by simp, hw1⟩ ⟨rfl, rfl, rfl, rfl, rfl, trivial⟩ (N_ C_ cM_) (fun _ _ h => h) ?_
  rintro ⟨⟨i, sv_B, H_B⟩, hi_i, hE0, hr_B⟩
  dsimp only at hi_i hE0 hr_B ⊢
  refine g_ (g_ (c_ (a_ (f_ rfl) rfl (a_ (h_ ab_ rfl rfl rfl al_) rfl (a_ (n_ 0 bd_ rfl rfl rfl) rfl (a_ (aA_ af_ rfl) rfl (E_ (au_ rfl rfl) rfl fun r2 hr2 => ?_)))))))
  refine d_ (b_ rfl ?_)
  cases r2
  ·
   replace hr2 := of_decide_eq_false hr2
   refine A_ rfl (bj_ rfl (b_ rfl (g_ (c_ (a_ (f_ rfl) rfl (a_ (e_ rfl) rfl (a_ (e_ rfl) rfl (d_ (b_ rfl ?_)))))))))
   refine u_ ?_
   have hE : ∀ s ∈ l, dI_ s = true := by have z := hE0; rw [List.take_of_length_le (by omega)] at z; exact z
   have he : dm_ l = (jY_ l, 0) := by unfold dm_; rw [if_neg (by omega), if_pos (List.all_eq_true.2 hE)]
   have e5 : (ac_ (List.length l : Int) 4 ++ List.flatMap bL_ (List.take i l)) = jY_ l := by rw [List.take_of_length_le (by omega)]; rfl
   exact lv_ Tryz.results16 ⟨(sv_B, H_B), by rw [he, ← e5]; exact hr_B⟩ rfl rfl (by dsimp only; rw [he]) aK_ (fun _ _ _ => trivial)
  ·
   replace hr2 := of_decide_eq_true hr2
   have hlx1 : i < List.length l := by omega
   obtain ⟨x1, hx1⟩ : ∃ e0, l[i]? = some e0 := ⟨_, List.getElem?_eq_getElem hlx1⟩
   have hmx1 : x1 ∈ l := List.mem_of_getElem? hx1
   refine w_ rfl (J_ (b_ rfl (g_ (ae_ (g_ (c_ (a_ (h_ ab_ rfl rfl rfl al_) rfl (a_ (n_ 0 bd_ rfl rfl rfl) rfl (a_ (f_ rfl) rfl ?_)))))))))
   refine a_ (an_ af_ ak_ rfl rfl (fun v _ h => ba_ (n := 9) Stp.cells_len (by decide) (by exact h.1) hx1) (by omega) (by first | omega | (simp; done))) rfl (a_ (aX_ (ad := ad) (us := Stp.cells x1) bY_ ak_ rfl (fun v _ h => by exact h.1) (Stp.cells_len _) (ar_ Stp.cells_len hx1)) rfl (Z_ bb_ rfl fun b2 => ?_))
   refine Q_ 0 ak_ rfl rfl rfl rfl rfl rfl (d_ (b_ rfl (g_ (g_ (c_ (a_ (M_ 0 bY_ ak_ rfl rfl rfl) rfl (ah_ (rEnc_c x1 (hfr x1 hmx1) (hsf x1 hmx1)) rfl x_ (fun v _ h => by exact ⟨(h.2.1 x1 hmx1), trivial⟩) rfl fun r3 hr3 => ?_)))))))
   refine a_ (bu_ rfl) rfl (d_ (b_ rfl ?_))
   cases r3
   ·
    refine w_ rfl (g_ (c_ (a_ (e_ rfl) rfl (a_ (e_ rfl) rfl (d_ (b_ rfl (u_ ?_)))))))
    have he : dm_ l = ([], 120) := by unfold dm_; rw [if_neg (by omega), if_neg (fun z => by have := List.all_eq_true.1 z x1 hmx1; simp_all)]
    exact lv_ Tryz.results16 ⟨(.slice none 0 0, []), by rw [he]; exact bi_.nil _ _⟩ rfl rfl (by dsimp only; rw [he]) x_ (fun _ _ _ => trivial)
   ·
    obtain ⟨ho1, ho2, ho3, ho4, ho5, ho6, ho7, ho8, ho9, ho10, ho11⟩ := dH_.1 hr3
    have hb1 := ng_ hE0
    have hb3 := fun w => mi_ (Stp.frm x1) w ho7
    have heok := hr3
    have htl : ∀ z : Str, (aF_ z).length = 2 + z.length := fun z => by rw [aF_, List.length_append, bf_]
    refine A_ rfl (J_ (b_ rfl (g_ (c_ (a_ (f_ rfl) rfl (a_ (h_ G_ rfl rfl rfl q_) rfl (a_ (n_ 0 B_ rfl rfl rfl) rfl (a_ (bZ_ aT_ bx_ rfl (hB_ (Stp.rule x1))) rfl (a_ (h_ G_ rfl rfl rfl l_) rfl ?_)))))))))
    refine a_ (h_ o_ rfl rfl rfl q_) rfl (a_ (n_ 0 B_ rfl rfl rfl) rfl (a_ (bZ_ aT_ bx_ rfl (hB_ (Fc.kind (Stp.fact x1)))) rfl (be_ aE_ cI_ lT_ rfl rfl rfl rfl rfl rfl fun b3 => ?_)))
    refine bC_ (news := List.flatMap u8C [(UInt8.ofNat (Go.Vs.bits (Stp.rule x1) / 256 ^ 0)), (UInt8.ofNat (Go.Vs.bits (Fc.kind (Stp.fact x1)) / 256 ^ 0))]) eB_ hr_B rfl rfl (F_ (F_ aK_)) rfl (ce_ 0 rfl) (fun u hu => bH_ dJ_ hu) (by simp only [maxLen]; (simp only [List.length_append, bf_, List.length_cons, List.length_nil, htl]; omega)) (by (simp only [List.length_append, bf_, List.length_cons, List.length_nil, htl]; omega)) rfl fun sv2 Hr2 hr2 => ?_
    refine as_ List.perm_append_comm ?_
    have hq2 : bi_ 5 1 sv2 (List.length ((ac_ (List.length l : Int) 4 ++ List.flatMap bL_ (List.take i l)) ++ [(UInt8.ofNat (Go.Vs.bits (Stp.rule x1) / 256 ^ 0)), (UInt8.ofNat (Go.Vs.bits (Fc.kind (Stp.fact x1)) / 256 ^ 0))])) (List.flatMap u8C ((ac_ (List.length l : Int) 4 ++ List.flatMap bL_ (List.take i l)) ++ [(UInt8.ofNat (Go.Vs.bits (Stp.rule x1) / 256 ^ 0)), (UInt8.ofNat (Go.Vs.bits (Fc.kind (Stp.fact x1)) / 256 ^ 0))])) Hr2 := by rw [List.length_append, List.flatMap_append]; exact hr2
    refine a_ (e_ rfl) rfl (d_ (b_ rfl (g_ (c_ (a_ (f_ rfl) rfl (a_ (h_ G_ rfl rfl rfl l_) rfl (a_ (h_ o_ rfl rfl rfl y_) rfl (a_ (n_ 1 H_ rfl rfl rfl) rfl (K_ (jD_ (Fc.a (Stp.fact x1)) (by omega)) rfl x_ (fun _ _ _ => by exact trivial) rfl fun ⟨⟨svn2, Hn2⟩, hn2⟩ => ?_)))))))))
    dsimp only
    refine dt_ eB_ hq2 hn2 rfl rfl (aQ_ (F_ (F_ aK_))) bM_ (fun u hu => bH_ dJ_ hu) (by simp only [maxLen]; (simp only [List.length_append, bf_, List.length_cons, List.length_nil, htl]; omega)) (by (simp only [List.length_append, bf_, List.length_cons, List.length_nil, htl]; omega)) rfl fun sv3 Hr3 hr3 => ?_
    have hq3 : bi_ 5 1 sv3 (List.length (((ac_ (List.length l : Int) 4 ++ List.flatMap bL_ (List.take i l)) ++ [(UInt8.ofNat (Go.Vs.bits (Stp.rule x1) / 256 ^ 0)), (UInt8.ofNat (Go.Vs.bits (Fc.kind (Stp.fact x1)) / 256 ^ 0))]) ++ (aF_ (Fc.a (Stp.fact x1))))) (List.flatMap u8C (((ac_ (List.length l : Int) 4 ++ List.flatMap bL_ (List.take i l)) ++ [(UInt8.ofNat (Go.Vs.bits (Stp.rule x1) / 256 ^ 0)), (UInt8.ofNat (Go.Vs.bits (Fc.kind (Stp.fact x1)) / 256 ^ 0))]) ++ (aF_ (Fc.a (Stp.fact x1))))) Hr3 := by rw [List.length_append, List.flatMap_append]; exact hr3
    refine a_ (e_ rfl) rfl (d_ (b_ rfl (as_ (cE_ (aQ_ (aQ_ C_)) (cE_ (aQ_ (aQ_ C_)) (eh_ (aQ_ cD_)))) (g_ (c_ (a_ (f_ rfl) rfl (a_ (h_ G_ rfl rfl rfl l_) rfl (a_ (h_ o_ rfl rfl rfl y_) rfl (a_ (n_ 1 H_ rfl rfl rfl) rfl ?_)))))))))
    refine K_ (jD_ (Fc.b (Stp.fact x1)) (by omega)) rfl x_ (fun _ _ _ => by exact trivial) rfl fun ⟨⟨svn3, Hn3⟩, hn3⟩ => ?_
    dsimp only
    refine dt_ eB_ hq3 hn3 rfl rfl (aQ_ (F_ (F_ (F_ bM_)))) bM_ (fun u hu => bH_ dJ_ hu) (by simp only [maxLen]; (simp only [List.length_append, bf_, List.length_cons, List.length_nil, htl]; omega)) (by (simp only [List.length_append, bf_, List.length_cons, List.length_nil, htl]; omega)) rfl fun sv4 Hr4 hr4 => ?_
    have hq4 : bi_ 5 1 sv4 (List.length ((((ac_ (List.length l : Int) 4 ++ List.flatMap bL_ (List.take i l)) ++ [(UInt8.ofNat (Go.Vs.bits (Stp.rule x1) / 256 ^ 0)), (UInt8.ofNat (Go.Vs.bits (Fc.kind (Stp.fact x1)) / 256 ^ 0))]) ++ (aF_ (Fc.a (Stp.fact x1)))) ++ (aF_ (Fc.b (Stp.fact x1))))) (List.flatMap u8C ((((ac_ (List.length l : Int) 4 ++ List.flatMap bL_ (List.take i l)) ++ [(UInt8.ofNat (Go.Vs.bits (Stp.rule x1) / 256 ^ 0)), (UInt8.ofNat (Go.Vs.bits (Fc.kind (Stp.fact x1)) / 256 ^ 0))]) ++ (aF_ (Fc.a (Stp.fact x1)))) ++ (aF_ (Fc.b (Stp.fact x1))))) Hr4 := by rw [List.length_append, List.flatMap_append]; exact hr4
    refine a_ (e_ rfl) rfl (d_ (b_ rfl (as_ (cE_ (aQ_ (aQ_ C_)) (cE_ (aQ_ (aQ_ C_)) (eh_ (aQ_ (aQ_ C_))))) (g_ (c_ (a_ (f_ rfl) rfl (a_ (h_ G_ rfl rfl rfl l_) rfl (a_ (h_ o_ rfl rfl rfl y_) rfl (a_ (n_ 1 H_ rfl rfl rfl) rfl ?_)))))))))
    refine K_ (jD_ (Fc.r (Stp.fact x1)) (by omega)) rfl x_ (fun _ _ _ => by exact trivial) rfl fun ⟨⟨svn4, Hn4⟩, hn4⟩ => ?_
    dsimp only
    refine dt_ eB_ hq4 hn4 rfl rfl (aQ_ (F_ (F_ (F_ bM_)))) bM_ (fun u hu => bH_ dJ_ hu) (by simp only [maxLen]; (simp only [List.length_append, bf_, List.length_cons, List.length_nil, htl]; omega)) (by (simp only [List.length_append, bf_, List.length_cons, List.length_nil, htl]; omega)) rfl fun sv5 Hr5 hr5 => ?_
    have hq5 : bi_ 5 1 sv5 (List.length (((((ac_ (List.length l : Int) 4 ++ List.flatMap bL_ (List.take i l)) ++ [(UInt8.ofNat (Go.Vs.bits (Stp.rule x1) / 256 ^ 0)), (UInt8.ofNat (Go.Vs.bits (Fc.kind (Stp.fact x1)) / 256 ^ 0))]) ++ (aF_ (Fc.a (Stp.fact x1)))) ++ (aF_ (Fc.b (Stp.fact x1)))) ++ (aF_ (Fc.r (Stp.fact x1))))) (List.flatMap u8C (((((ac_ (List.length l : Int) 4 ++ List.flatMap bL_ (List.take i l)) ++ [(UInt8.ofNat (Go.Vs.bits (Stp.rule x1) / 256 ^ 0)), (UInt8.ofNat (Go.Vs.bits (Fc.kind (Stp.fact x1)) / 256 ^ 0))]) ++ (aF_ (Fc.a (Stp.fact x1)))) ++ (aF_ (Fc.b (Stp.fact x1)))) ++ (aF_ (Fc.r (Stp.fact x1))))) Hr5 := by rw [List.length_append, List.flatMap_append]; exact hr5
    refine a_ (e_ rfl) rfl (d_ (b_ rfl (as_ (cE_ (aQ_ (aQ_ C_)) (cE_ (aQ_ (aQ_ C_)) (eh_ (aQ_ (aQ_ C_))))) (g_ (c_ (a_ (f_ rfl) rfl (a_ (h_ G_ rfl rfl rfl l_) rfl (a_ (h_ o_ rfl rfl rfl q_) rfl (a_ (n_ 1 B_ rfl rfl rfl) rfl ?_)))))))))
    refine a_ (bZ_ aT_ aZ_ rfl (dR_ (Fc.lo (Stp.fact x1)))) rfl (K_ (gP_ (Fc.lo (Stp.fact x1)) 8 (by decide)) rfl x_ (fun _ _ _ => by exact trivial) rfl fun ⟨⟨svn5, Hn5⟩, hn5⟩ => ?_)
    dsimp only
    refine dt_ eB_ hq5 hn5 rfl rfl (aQ_ (F_ (F_ (F_ bM_)))) bM_ (fun u hu => bH_ dJ_ hu) (by simp only [maxLen]; (simp only [List.length_append, bf_, List.length_cons, List.length_nil, htl]; omega)) (by (simp only [List.length_append, bf_, List.length_cons, List.length_nil, htl]; omega)) rfl fun sv6 Hr6 hr6 => ?_
    have hq6 : bi_ 5 1 sv6 (List.length ((((((ac_ (List.length l : Int) 4 ++ List.flatMap bL_ (List.take i l)) ++ [(UInt8.ofNat (Go.Vs.bits (Stp.rule x1) / 256 ^ 0)), (UInt8.ofNat (Go.Vs.bits (Fc.kind (Stp.fact x1)) / 256 ^ 0))]) ++ (aF_ (Fc.a (Stp.fact x1)))) ++ (aF_ (Fc.b (Stp.fact x1)))) ++ (aF_ (Fc.r (Stp.fact x1)))) ++ (ac_ (Fc.lo (Stp.fact x1)) 8))) (List.flatMap u8C ((((((ac_ (List.length l : Int) 4 ++ List.flatMap bL_ (List.take i l)) ++ [(UInt8.ofNat (Go.Vs.bits (Stp.rule x1) / 256 ^ 0)), (UInt8.ofNat (Go.Vs.bits (Fc.kind (Stp.fact x1)) / 256 ^ 0))]) ++ (aF_ (Fc.a (Stp.fact x1)))) ++ (aF_ (Fc.b (Stp.fact x1)))) ++ (aF_ (Fc.r (Stp.fact x1)))) ++ (ac_ (Fc.lo (Stp.fact x1)) 8))) Hr6 := by rw [List.length_append, List.flatMap_append]; exact hr6
    refine a_ (e_ rfl) rfl (d_ (b_ rfl (as_ (cE_ (aQ_ (aQ_ C_)) (cE_ (aQ_ (aQ_ C_)) (eh_ (aQ_ (aQ_ C_))))) (g_ (c_ (a_ (f_ rfl) rfl (a_ (h_ G_ rfl rfl rfl l_) rfl (a_ (h_ o_ rfl rfl rfl q_) rfl (a_ (n_ 1 B_ rfl rfl rfl) rfl ?_)))))))))
    refine a_ (bZ_ aT_ aZ_ rfl (dR_ (Fc.hi (Stp.fact x1)))) rfl (K_ (gP_ (Fc.hi (Stp.fact x1)) 8 (by decide)) rfl x_ (fun _ _ _ => by exact trivial) rfl fun ⟨⟨svn6, Hn6⟩, hn6⟩ => ?_)
    dsimp only
    refine dt_ eB_ hq6 hn6 rfl rfl (aQ_ (F_ (F_ (F_ bM_)))) bM_ (fun u hu => bH_ dJ_ hu) (by simp only [maxLen]; (simp only [List.length_append, bf_, List.length_cons, List.length_nil, htl]; omega)) (by (simp only [List.length_append, bf_, List.length_cons, List.length_nil, htl]; omega)) rfl fun sv7 Hr7 hr7 => ?_
    have hq7 : bi_ 5 1 sv7 (List.length (((((((ac_ (List.length l : Int) 4 ++ List.flatMap bL_ (List.take i l)) ++ [(UInt8.ofNat (Go.Vs.bits (Stp.rule x1) / 256 ^ 0)), (UInt8.ofNat (Go.Vs.bits (Fc.kind (Stp.fact x1)) / 256 ^ 0))]) ++ (aF_ (Fc.a (Stp.fact x1)))) ++ (aF_ (Fc.b (Stp.fact x1)))) ++ (aF_ (Fc.r (Stp.fact x1)))) ++ (ac_ (Fc.lo (Stp.fact x1)) 8)) ++ (ac_ (Fc.hi (Stp.fact x1)) 8))) (List.flatMap u8C (((((((ac_ (List.length l : Int) 4 ++ List.flatMap bL_ (List.take i l)) ++ [(UInt8.ofNat (Go.Vs.bits (Stp.rule x1) / 256 ^ 0)), (UInt8.ofNat (Go.Vs.bits (Fc.kind (Stp.fact x1)) / 256 ^ 0))]) ++ (aF_ (Fc.a (Stp.fact x1)))) ++ (aF_ (Fc.b (Stp.fact x1)))) ++ (aF_ (Fc.r (Stp.fact x1)))) ++ (ac_ (Fc.lo (Stp.fact x1)) 8)) ++ (ac_ (Fc.hi (Stp.fact x1)) 8))) Hr7 := by rw [List.length_append, List.flatMap_append]; exact hr7
    refine a_ (e_ rfl) rfl (d_ (b_ rfl (as_ (cE_ (aQ_ (aQ_ C_)) (cE_ (aQ_ (aQ_ C_)) (eh_ (aQ_ (aQ_ C_))))) (g_ (c_ (a_ (f_ rfl) rfl (a_ (h_ G_ rfl rfl rfl q_) rfl (a_ (n_ 1 B_ rfl rfl rfl) rfl (a_ (ag_ rfl rfl rfl (aS_ (by omega) (by omega))) rfl ?_)))))))))
    refine a_ (bZ_ aT_ aZ_ rfl (dR_ ((Stp.piece x1) + 1))) rfl (K_ (gP_ ((Stp.piece x1) + 1) 4 (by decide)) rfl x_ (fun _ _ _ => by exact trivial) rfl fun ⟨⟨svn7, Hn7⟩, hn7⟩ => ?_)
    dsimp only
    refine dt_ eB_ hq7 hn7 rfl rfl (aQ_ (F_ (F_ (F_ bM_)))) bM_ (fun u hu => bH_ dJ_ hu) (by simp only [maxLen]; (simp only [List.length_append, bf_, List.length_cons, List.length_nil, htl]; omega)) (by (simp only [List.length_append, bf_, List.length_cons, List.length_nil, htl]; omega)) rfl fun sv8 Hr8 hr8 => ?_
    have hq8 : bi_ 5 1 sv8 (List.length ((((((((ac_ (List.length l : Int) 4 ++ List.flatMap bL_ (List.take i l)) ++ [(UInt8.ofNat (Go.Vs.bits (Stp.rule x1) / 256 ^ 0)), (UInt8.ofNat (Go.Vs.bits (Fc.kind (Stp.fact x1)) / 256 ^ 0))]) ++ (aF_ (Fc.a (Stp.fact x1)))) ++ (aF_ (Fc.b (Stp.fact x1)))) ++ (aF_ (Fc.r (Stp.fact x1)))) ++ (ac_ (Fc.lo (Stp.fact x1)) 8)) ++ (ac_ (Fc.hi (Stp.fact x1)) 8)) ++ (ac_ ((Stp.piece x1) + 1) 4))) (List.flatMap u8C ((((((((ac_ (List.length l : Int) 4 ++ List.flatMap bL_ (List.take i l)) ++ [(UInt8.ofNat (Go.Vs.bits (Stp.rule x1) / 256 ^ 0)), (UInt8.ofNat (Go.Vs.bits (Fc.kind (Stp.fact x1)) / 256 ^ 0))]) ++ (aF_ (Fc.a (Stp.fact x1)))) ++ (aF_ (Fc.b (Stp.fact x1)))) ++ (aF_ (Fc.r (Stp.fact x1)))) ++ (ac_ (Fc.lo (Stp.fact x1)) 8)) ++ (ac_ (Fc.hi (Stp.fact x1)) 8)) ++ (ac_ ((Stp.piece x1) + 1) 4))) Hr8 := by rw [List.length_append, List.flatMap_append]; exact hr8
    refine a_ (e_ rfl) rfl (d_ (b_ rfl (as_ (cE_ (aQ_ (aQ_ C_)) (cE_ (aQ_ (aQ_ C_)) (eh_ (aQ_ (aQ_ C_))))) (g_ (c_ (a_ (f_ rfl) rfl (a_ (h_ G_ rfl rfl rfl bc_) rfl (a_ (n_ 1 bz_ rfl rfl rfl) rfl (a_ (aA_ aj_ rfl) rfl ?_)))))))))
    refine a_ (bZ_ aT_ bx_ rfl (hB_ (List.length (Stp.frm x1) : Int))) rfl (be_ aE_ cI_ lT_ rfl rfl rfl rfl rfl rfl fun b4 => ?_)
    refine bC_ (news := List.flatMap u8C [(UInt8.ofNat (Go.Vs.bits (List.length (Stp.frm x1) : Int) / 256 ^ 0))]) eB_ hq8 rfl rfl (F_ (F_ (F_ (F_ bM_)))) rfl (ce_ 0 rfl) (fun u hu => bH_ dJ_ hu) (by simp only [maxLen]; (simp only [List.length_append, bf_, List.length_cons, List.length_nil, htl]; omega)) (by (simp only [List.length_append, bf_, List.length_cons, List.length_nil, htl]; omega)) rfl fun sv9 Hr9 hr9 => ?_
    have hq9 : bi_ 5 1 sv9 (List.length (((((((((ac_ (List.length l : Int) 4 ++ List.flatMap bL_ (List.take i l)) ++ [(UInt8.ofNat (Go.Vs.bits (Stp.rule x1) / 256 ^ 0)), (UInt8.ofNat (Go.Vs.bits (Fc.kind (Stp.fact x1)) / 256 ^ 0))]) ++ (aF_ (Fc.a (Stp.fact x1)))) ++ (aF_ (Fc.b (Stp.fact x1)))) ++ (aF_ (Fc.r (Stp.fact x1)))) ++ (ac_ (Fc.lo (Stp.fact x1)) 8)) ++ (ac_ (Fc.hi (Stp.fact x1)) 8)) ++ (ac_ ((Stp.piece x1) + 1) 4)) ++ [(UInt8.ofNat (Go.Vs.bits (List.length (Stp.frm x1) : Int) / 256 ^ 0))])) (List.flatMap u8C (((((((((ac_ (List.length l : Int) 4 ++ List.flatMap bL_ (List.take i l)) ++ [(UInt8.ofNat (Go.Vs.bits (Stp.rule x1) / 256 ^ 0)), (UInt8.ofNat (Go.Vs.bits (Fc.kind (Stp.fact x1)) / 256 ^ 0))]) ++ (aF_ (Fc.a (Stp.fact x1)))) ++ (aF_ (Fc.b (Stp.fact x1)))) ++ (aF_ (Fc.r (Stp.fact x1)))) ++ (ac_ (Fc.lo (Stp.fact x1)) 8)) ++ (ac_ (Fc.hi (Stp.fact x1)) 8)) ++ (ac_ ((Stp.piece x1) + 1) 4)) ++ [(UInt8.ofNat (Go.Vs.bits (List.length (Stp.frm x1) : Int) / 256 ^ 0))])) Hr9 := by rw [List.length_append, List.flatMap_append]; exact hr9
    refine a_ (e_ rfl) rfl (d_ (b_ rfl (as_ (cE_ (aQ_ C_) (cE_ (aQ_ C_) (cE_ (aQ_ C_) (eh_ (aQ_ C_))))) (g_ (c_ (a_ (e_ rfl) rfl (d_ (b_ rfl (ae_ ?_)))))))))
    have hw10 : bi_ 5 1 sv9 (List.length ((((((((((ac_ (List.length l : Int) 4 ++ List.flatMap bL_ (List.take i l)) ++ [(UInt8.ofNat (Go.Vs.bits (Stp.rule x1) / 256 ^ 0)), (UInt8.ofNat (Go.Vs.bits (Fc.kind (Stp.fact x1)) / 256 ^ 0))]) ++ (aF_ (Fc.a (Stp.fact x1)))) ++ (aF_ (Fc.b (Stp.fact x1)))) ++ (aF_ (Fc.r (Stp.fact x1)))) ++ (ac_ (Fc.lo (Stp.fact x1)) 8)) ++ (ac_ (Fc.hi (Stp.fact x1)) 8)) ++ (ac_ ((Stp.piece x1) + 1) 4)) ++ [(UInt8.ofNat (Go.Vs.bits (List.length (Stp.frm x1) : Int) / 256 ^ 0))]) ++ List.flatMap (fun q => ac_ q 4) (List.take 0 (Stp.frm x1)))) (List.flatMap u8C ((((((((((ac_ (List.length l : Int) 4 ++ List.flatMap bL_ (List.take i l)) ++ [(UInt8.ofNat (Go.Vs.bits (Stp.rule x1) / 256 ^ 0)), (UInt8.ofNat (Go.Vs.bits (Fc.kind (Stp.fact x1)) / 256 ^ 0))]) ++ (aF_ (Fc.a (Stp.fact x1)))) ++ (aF_ (Fc.b (Stp.fact x1)))) ++ (aF_ (Fc.r (Stp.fact x1)))) ++ (ac_ (Fc.lo (Stp.fact x1)) 8)) ++ (ac_ (Fc.hi (Stp.fact x1)) 8)) ++ (ac_ ((Stp.piece x1) + 1) 4)) ++ [(UInt8.ofNat (Go.Vs.bits (List.length (Stp.frm x1) : Int) / 256 ^ 0))]) ++ List.flatMap (fun q => ac_ q 4) (List.take 0 (Stp.frm x1)))) Hr9 := by have q := hq9; rw [show (((((((((ac_ (List.length l : Int) 4 ++ List.flatMap bL_ (List.take i l)) ++ [(UInt8.ofNat (Go.Vs.bits (Stp.rule x1) / 256 ^ 0)), (UInt8.ofNat (Go.Vs.bits (Fc.kind (Stp.fact x1)) / 256 ^ 0))]) ++ (aF_ (Fc.a (Stp.fact x1)))) ++ (aF_ (Fc.b (Stp.fact x1)))) ++ (aF_ (Fc.r (Stp.fact x1)))) ++ (ac_ (Fc.lo (Stp.fact x1)) 8)) ++ (ac_ (Fc.hi (Stp.fact x1)) 8)) ++ (ac_ ((Stp.piece x1) + 1) 4)) ++ [(UInt8.ofNat (Go.Vs.bits (List.length (Stp.frm x1) : Int) / 256 ^ 0))]) = ((((((((((ac_ (List.length l : Int) 4 ++ List.flatMap bL_ (List.take i l)) ++ [(UInt8.ofNat (Go.Vs.bits (Stp.rule x1) / 256 ^ 0)), (UInt8.ofNat (Go.Vs.bits (Fc.kind (Stp.fact x1)) / 256 ^ 0))]) ++ (aF_ (Fc.a (Stp.fact x1)))) ++ (aF_ (Fc.b (Stp.fact x1)))) ++ (aF_ (Fc.r (Stp.fact x1)))) ++ (ac_ (Fc.lo (Stp.fact x1)) 8)) ++ (ac_ (Fc.hi (Stp.fact x1)) 8)) ++ (ac_ ((Stp.piece x1) + 1) 4)) ++ [(UInt8.ofNat (Go.Vs.bits (List.length (Stp.frm x1) : Int) / 256 ^ 0))]) ++ List.flatMap (fun q => ac_ q 4) (List.take 0 (Stp.frm x1))) from (by simp)] at q; exact q
    refine bt_ (ι := {y : Nat × Value × Hp // y.1 ≤ List.length (Stp.frm x1) ∧ bi_ 5 1 y.2.1 (List.length ((((((((((ac_ (List.length l : Int) 4 ++ List.flatMap bL_ (List.take i l)) ++ [(UInt8.ofNat (Go.Vs.bits (Stp.rule x1) / 256 ^ 0)), (UInt8.ofNat (Go.Vs.bits (Fc.kind (Stp.fact x1)) / 256 ^ 0))]) ++ (aF_ (Fc.a (Stp.fact x1)))) ++ (aF_ (Fc.b (Stp.fact x1)))) ++ (aF_ (Fc.r (Stp.fact x1)))) ++ (ac_ (Fc.lo (Stp.fact x1)) 8)) ++ (ac_ (Fc.hi (Stp.fact x1)) 8)) ++ (ac_ ((Stp.piece x1) + 1) 4)) ++ [(UInt8.ofNat (Go.Vs.bits (List.length (Stp.frm x1) : Int) / 256 ^ 0))]) ++ List.flatMap (fun q => ac_ q 4) (List.take y.1 (Stp.frm x1)))) (List.flatMap u8C ((((((((((ac_ (List.length l : Int) 4 ++ List.flatMap bL_ (List.take i l)) ++ [(UInt8.ofNat (Go.Vs.bits (Stp.rule x1) / 256 ^ 0)), (UInt8.ofNat (Go.Vs.bits (Fc.kind (Stp.fact x1)) / 256 ^ 0))]) ++ (aF_ (Fc.a (Stp.fact x1)))) ++ (aF_ (Fc.b (Stp.fact x1)))) ++ (aF_ (Fc.r (Stp.fact x1)))) ++ (ac_ (Fc.lo (Stp.fact x1)) 8)) ++ (ac_ (Fc.hi (Stp.fact x1)) 8)) ++ (ac_ ((Stp.piece x1) + 1) 4)) ++ [(UInt8.ofNat (Go.Vs.bits (List.length (Stp.frm x1) : Int) / 256 ^ 0))]) ++ List.flatMap (fun q => ac_ q 4) (List.take y.1 (Stp.frm x1)))) y.2.2}) (fun y => [(1, zp_ b1 0), (2, .slice none 0 0), (3, .int .i64 0), (4, y.1.2.1), (5, .int .i64 (i : Int)), (6, zp_ b2 0), (7, .int .i64 (y.1.1 : Int))]) (fun y => ((b2, .cells #[.int .i64 (Stp.rule x1), .int .i64 (Fc.kind (Stp.fact x1)), str (Fc.a (Stp.fact x1)), str (Fc.b (Stp.fact x1)), str (Fc.r (Stp.fact x1)), .int .i64 (Fc.lo (Stp.fact x1)), .int .i64 (Fc.hi (Stp.fact x1)), .int .i64 (Stp.piece x1), .slice (Stp.ad x1) (List.length (Stp.frm x1)) (Stp.cap x1)] 36 (0, 0)) :: ((b1, .cells #[.slice ad (List.length l) cap] 27 (0, 0)) :: y.1.2.2))) (fun y => [aY_ ad (List.flatMap Stp.cells l), cP_ l]) (fun y => List.length (Stp.frm x1) - y.1.1) ⟨((0 : Nat), sv9, Hr9), by simp, hw10⟩ ⟨rfl, rfl, rfl, rfl, rfl, rfl, rfl, trivial⟩ (N_ (F_ (F_ C_)) (N_ (F_ (F_ C_)) (F_ (F_ bM_)))) (fun _ _ h => h) ?_
    rintro ⟨⟨k, sv_B, H_B⟩, hi_k, hr_B⟩
    dsimp only at hi_k hr_B ⊢
    refine g_ (g_ (c_ (a_ (f_ rfl) rfl (a_ (h_ G_ rfl rfl rfl bc_) rfl (a_ (n_ 0 bz_ rfl rfl rfl) rfl (a_ (aA_ aj_ rfl) rfl (E_ (au_ rfl rfl) rfl fun r4 hr4 => ?_)))))))
    refine d_ (b_ rfl ?_)
    cases r4
    ·
     replace hr4 := of_decide_eq_false hr4
     have e4 : List.take k (Stp.frm x1) = Stp.frm x1 := List.take_of_length_le (by omega)
     refine A_ rfl (bj_ rfl (b_ rfl (c_ (a_ (f_ rfl) rfl (a_ (ag_ rfl rfl rfl (aS_ (by omega) (by omega))) rfl (a_ (e_ rfl) rfl (d_ (p_ rfl ?_))))))))
     exact aU_ ⟨(i + 1, sv_B, H_B), hlx1, lk_ hE0 hx1 heok, (by have z := hr_B; rw [show ((((((((((ac_ (List.length l : Int) 4 ++ List.flatMap bL_ (List.take i l)) ++ [(UInt8.ofNat (Go.Vs.bits (Stp.rule x1) / 256 ^ 0)), (UInt8.ofNat (Go.Vs.bits (Fc.kind (Stp.fact x1)) / 256 ^ 0))]) ++ (aF_ (Fc.a (Stp.fact x1)))) ++ (aF_ (Fc.b (Stp.fact x1)))) ++ (aF_ (Fc.r (Stp.fact x1)))) ++ (ac_ (Fc.lo (Stp.fact x1)) 8)) ++ (ac_ (Fc.hi (Stp.fact x1)) 8)) ++ (ac_ ((Stp.piece x1) + 1) 4)) ++ [(UInt8.ofNat (Go.Vs.bits (List.length (Stp.frm x1) : Int) / 256 ^ 0))]) ++ List.flatMap (fun q => ac_ q 4) (List.take k (Stp.frm x1))) = _ from nf_ hx1 e4 (ac_ (List.length l : Int) 4)] at z; exact z)⟩ (by dsimp only; omega) ⟨rfl, rfl, rfl, rfl, rfl, trivial⟩ (N_ (F_ C_) aK_) (fun _ _ h => h)
    ·
     replace hr4 := of_decide_eq_true hr4
     have hlx3 : k < List.length (Stp.frm x1) := by omega
     obtain ⟨x3, hx3⟩ : ∃ e0, (Stp.frm x1)[k]? = some e0 := ⟨_, List.getElem?_eq_getElem hlx3⟩
     have hmx3 : x3 ∈ (Stp.frm x1) := List.mem_of_getElem? hx3
     have hb5 := hb3 k
     refine w_ rfl (J_ (b_ rfl (g_ (ae_ (c_ (a_ (f_ rfl) rfl (a_ (h_ G_ rfl rfl rfl bc_) rfl (a_ (n_ 0 bz_ rfl rfl rfl) rfl (a_ (f_ rfl) rfl ?_)))))))))
     refine a_ (an_ aj_ q_ rfl rfl (fun v _ h => ba_ (n := 1) cu_ (by decide) (by exact (h.2.1 x1 hmx1)) hx3) (by omega) (by first | omega | (simp; done))) rfl (a_ (bE_ (ad := (Stp.ad x1)) B_ rfl (fun v _ h => by exact (h.2.1 x1 hmx1)) (ar_ cu_ hx3 0 _ rfl)) rfl (a_ (bZ_ aT_ aZ_ rfl (dR_ x3)) rfl (K_ (gP_ x3 4 (by decide)) rfl x_ (fun _ _ _ => by exact trivial) rfl fun ⟨⟨svn8, Hn8⟩, hn8⟩ => ?_)))
     dsimp only
     refine dt_ eB_ hr_B hn8 rfl rfl (aQ_ (F_ aK_)) bM_ (fun u hu => bH_ dJ_ hu) (by simp only [maxLen]; (simp only [List.length_append, bf_, List.length_cons, List.length_nil, htl]; omega)) (by (simp only [List.length_append, bf_, List.length_cons, List.length_nil, htl]; omega)) rfl fun sv11 Hr11 hr11 => ?_
     have hq11 : bi_ 5 1 sv11 (List.length (((((((((((ac_ (List.length l : Int) 4 ++ List.flatMap bL_ (List.take i l)) ++ [(UInt8.ofNat (Go.Vs.bits (Stp.rule x1) / 256 ^ 0)), (UInt8.ofNat (Go.Vs.bits (Fc.kind (Stp.fact x1)) / 256 ^ 0))]) ++ (aF_ (Fc.a (Stp.fact x1)))) ++ (aF_ (Fc.b (Stp.fact x1)))) ++ (aF_ (Fc.r (Stp.fact x1)))) ++ (ac_ (Fc.lo (Stp.fact x1)) 8)) ++ (ac_ (Fc.hi (Stp.fact x1)) 8)) ++ (ac_ ((Stp.piece x1) + 1) 4)) ++ [(UInt8.ofNat (Go.Vs.bits (List.length (Stp.frm x1) : Int) / 256 ^ 0))]) ++ List.flatMap (fun q => ac_ q 4) (List.take k (Stp.frm x1))) ++ (ac_ x3 4))) (List.flatMap u8C (((((((((((ac_ (List.length l : Int) 4 ++ List.flatMap bL_ (List.take i l)) ++ [(UInt8.ofNat (Go.Vs.bits (Stp.rule x1) / 256 ^ 0)), (UInt8.ofNat (Go.Vs.bits (Fc.kind (Stp.fact x1)) / 256 ^ 0))]) ++ (aF_ (Fc.a (Stp.fact x1)))) ++ (aF_ (Fc.b (Stp.fact x1)))) ++ (aF_ (Fc.r (Stp.fact x1)))) ++ (ac_ (Fc.lo (Stp.fact x1)) 8)) ++ (ac_ (Fc.hi (Stp.fact x1)) 8)) ++ (ac_ ((Stp.piece x1) + 1) 4)) ++ [(UInt8.ofNat (Go.Vs.bits (List.length (Stp.frm x1) : Int) / 256 ^ 0))]) ++ List.flatMap (fun q => ac_ q 4) (List.take k (Stp.frm x1))) ++ (ac_ x3 4))) Hr11 := by rw [List.length_append, List.flatMap_append]; exact hr11
     refine a_ (e_ rfl) rfl (d_ (b_ rfl (as_ (cE_ (aQ_ (aQ_ C_)) (eh_ (aQ_ cD_))) (c_ (a_ (f_ rfl) rfl (a_ (ag_ rfl rfl rfl (aS_ (by omega) (by omega))) rfl (a_ (e_ rfl) rfl (d_ (p_ rfl ?_)))))))))
     exact aU_ ⟨(k + 1, sv11, Hr11), hlx3, (by have z := hq11; rw [show (((((((((((ac_ (List.length l : Int) 4 ++ List.flatMap bL_ (List.take i l)) ++ [(UInt8.ofNat (Go.Vs.bits (Stp.rule x1) / 256 ^ 0)), (UInt8.ofNat (Go.Vs.bits (Fc.kind (Stp.fact x1)) / 256 ^ 0))]) ++ (aF_ (Fc.a (Stp.fact x1)))) ++ (aF_ (Fc.b (Stp.fact x1)))) ++ (aF_ (Fc.r (Stp.fact x1)))) ++ (ac_ (Fc.lo (Stp.fact x1)) 8)) ++ (ac_ (Fc.hi (Stp.fact x1)) 8)) ++ (ac_ ((Stp.piece x1) + 1) 4)) ++ [(UInt8.ofNat (Go.Vs.bits (List.length (Stp.frm x1) : Int) / 256 ^ 0))]) ++ List.flatMap (fun q => ac_ q 4) (List.take k (Stp.frm x1))) ++ (ac_ x3 4)) = _ from jX_ (fun q => ac_ q 4) hx3 (((((((((ac_ (List.length l : Int) 4 ++ List.flatMap bL_ (List.take i l)) ++ [(UInt8.ofNat (Go.Vs.bits (Stp.rule x1) / 256 ^ 0)), (UInt8.ofNat (Go.Vs.bits (Fc.kind (Stp.fact x1)) / 256 ^ 0))]) ++ (aF_ (Fc.a (Stp.fact x1)))) ++ (aF_ (Fc.b (Stp.fact x1)))) ++ (aF_ (Fc.r (Stp.fact x1)))) ++ (ac_ (Fc.lo (Stp.fact x1)) 8)) ++ (ac_ (Fc.hi (Stp.fact x1)) 8)) ++ (ac_ ((Stp.piece x1) + 1) 4)) ++ [(UInt8.ofNat (Go.Vs.bits (List.length (Stp.frm x1) : Int) / 256 ^ 0))])] at z; exact z)⟩ (by dsimp only; omega) ⟨rfl, rfl, rfl, rfl, rfl, rfl, rfl, trivial⟩ (N_ C_ (N_ C_ bM_)) (fun _ _ h => h)
 ·
  replace hr1 := of_decide_eq_true hr1
  refine w_ rfl (g_ (c_ (a_ (e_ rfl) rfl (a_ (e_ rfl) rfl (d_ (b_ rfl (u_ ?_)))))))
  have he : dm_ l = ([], 2) := by unfold dm_; rw [if_pos (by omega)]
  exact lv_ Tryz.results16 ⟨(.slice none 0 0, []), by rw [he]; exact bi_.nil _ _⟩ rfl rfl (by dsimp only; rw [he]) x_ (fun _ _ _ => trivial)
end Go.Proofs.YtaffcjgphlhppaaGreatDoor
namespace Go.Vs
open Go Go.Sx
def gY_ (n : Nat) (d : Dst) (x : Bool) (v : Nat) (d' : Dst) (x' : Bool) : Prop := v < 256 ^ n ∧ ((x' = false ∧ x = false ∧ cQ_ n d.r = some (v, d'.r)) ∨ (x' = true ∧ (x = true ∨ cQ_ n d.r = none)))
def lm_ (n : Nat) (d : Dst) (x : Bool) (L : Str) (d' : Dst) (x' : Bool) : Prop := L.length = n ∧ ((x' = false ∧ x = false ∧ ha_ n d.r = some (L, d'.r)) ∨ (x' = true ∧ (x = true ∨ ha_ n d.r = none)))
def ll_ (d : Dst) (x : Bool) (s : Str) (d' : Dst) (x' : Bool) : Prop := (x' = false ∧ x = false ∧ dF_ d.r = some (s, d'.r)) ∨ (x' = true ∧ (x = true ∨ dF_ d.r = none))
def oL_ (d : Dst) (x : Bool) (s : Ds) (d' : Dst) (x' : Bool) : Prop := (x' = false ∧ x = false ∧ eU_ d.r = some (s, d'.r)) ∨ (x' = true ∧ (x = true ∨ eU_ d.r = none))
theorem iI_ {n : Nat} {d d' : Dst} {x : Bool} {L : Str} (hL : L.length = n) (h : x = true ∨ ¬ n ≤ d.r.length) : lm_ n d x L d' true := ⟨hL, .inr ⟨rfl, h.imp id iH_⟩⟩
theorem nA_ {n : Nat} {d d' : Dst} (h : n ≤ d.r.length) (h' : d'.r = d.r.drop n) : lm_ n d false (d.r.take n) d' false := ⟨by rw [List.length_take]; omega, .inl ⟨rfl, rfl, by rw [iG_ h, h']⟩⟩
theorem pK_ {n : Nat} {d d' : Dst} {x x' : Bool} {L : Str} (h : lm_ n d x L d' x') : gY_ n d x (beN L) d' x' := by
  obtain ⟨hl, h⟩ := h
  refine ⟨by have := is_ L; rwa [hl] at this, ?_⟩
  rcases h with ⟨h1, h2, h3⟩ | ⟨h1, h2⟩
  · exact .inl ⟨h1, h2, by unfold cQ_; rw [h3]; rfl⟩
  · exact .inr ⟨h1, h2.imp id fun h => by unfold cQ_; rw [h]; rfl⟩
theorem nv_ {d d1 d2 : Dst} {x x1 x2 : Bool} {n : Nat} {L : Str} (h1 : gY_ 2 d x n d1 x1) (h2 : lm_ n d1 x1 L d2 x2) : ll_ d x L d2 x2 := by
  obtain ⟨_, h1⟩ := h1
  obtain ⟨_, h2⟩ := h2
  rcases h2 with ⟨a1, a2, a3⟩ | ⟨a1, a2⟩
  · rcases h1 with ⟨_, b2, b3⟩ | ⟨b1, _⟩
    · exact .inl ⟨a1, b2, by unfold dF_; rw [b3]; exact a3⟩
    · rw [a2] at b1; cases b1
  · refine .inr ⟨a1, ?_⟩
    rcases h1 with ⟨b1, b2, b3⟩ | ⟨_, b2⟩
    · rcases a2 with a2 | a2
      · rw [b1] at a2; cases a2
      · exact .inr (by unfold dF_; rw [b3]; exact a2)
    · exact b2.imp id ls_
def oM_ (n : Nat) (d : Dst) (x : Bool) (i : Nat) (l : List Int) (e : Dst) (y : Bool) : Prop := (y = false → x = false ∧ dB_ n d.r = (dB_ (n - i) e.r).map fun z => (l ++ z.1, z.2)) ∧ (y = true → x = true ∨ dB_ n d.r = none)
theorem nc_ (n : Nat) (d : Dst) (x : Bool) : oM_ n d x 0 [] d x := ⟨fun h => ⟨h, by simp⟩, fun h => .inl h⟩
theorem nd_ {n i : Nat} {d e e' : Dst} {x y y' : Bool} {l : List Int} {v : Nat} (h : oM_ n d x i l e y) (hi : i < n) (hy : y = false) (hg : gY_ 4 e y v e' y') : oM_ n d x (i + 1) (l ++ [(v : Int)]) e' (y' || decide (2147483647 < (v : Int))) := by
  obtain ⟨h1, _⟩ := h
  obtain ⟨q1, q2⟩ := h1 hy
  obtain ⟨_, hg⟩ := hg
  constructor
  · intro h0
    simp only [Bool.or_eq_false_iff, decide_eq_false_iff_not] at h0
    rcases hg with ⟨_, _, g3⟩ | ⟨g1, _⟩
    · exact ⟨q1, fV_ q2 hi (je_ g3 (by omega))⟩
    · rw [h0.1] at g1; cases g1
  · intro h0
    right
    rcases hg with ⟨g1, _, g3⟩ | ⟨_, g2⟩
    · rw [g1, Bool.false_or, decide_eq_true_eq] at h0
      exact fU_ q2 hi (mr_ g3 (by omega))
    · rcases g2 with g2 | g2
      · rw [hy] at g2; cases g2
      · exact fU_ q2 hi (mq_ g2)
theorem nF_ {d d1 d2 d3 d4 d5 d6 d7 d8 d9 e : Dst} {x x1 x2 x3 x4 x5 x6 x7 x8 x9 y : Bool} {v1 v2 v6 v7 v8 v9 i : Nat} {a b r : Str} {l : List Int}
    (g1 : gY_ 1 d x v1 d1 x1) (g2 : gY_ 1 d1 x1 v2 d2 x2) (g3 : ll_ d2 x2 a d3 x3) (g4 : ll_ d3 x3 b d4 x4) (g5 : ll_ d4 x4 r d5 x5) (g6 : gY_ 8 d5 x5 v6 d6 x6) (g7 : gY_ 8 d6 x6 v7 d7 x7) (g8 : gY_ 4 d7 x7 v8 d8 x8)
    (g9 : gY_ 1 d8 (x8 || decide (2147483647 < (v8 : Int))) v9 d9 x9) (hI : oM_ v9 d9 x9 i l e y) (hi : y = true ∨ v9 ≤ i) : oL_ d x ⟨v1, ⟨v2, a, b, r, cq_ v6, cq_ v7⟩, (v8 : Int) - 1, l⟩ e y := by
  have hn : ∀ {n : Nat} {d d' : Dst} {x x' : Bool} {v : Nat}, gY_ n d x v d' x' → (x' = false ∧ x = false ∧ cQ_ n d.r = some (v, d'.r)) ∨ (x' = true ∧ (x = true ∨ cQ_ n d.r = none)) := fun h => h.2
  have key : (x = false ∧ eU_ d.r = (if y = true then none else some (⟨v1, ⟨v2, a, b, r, cq_ v6, cq_ v7⟩, (v8 : Int) - 1, l⟩, e.r))) ∨ (y = true ∧ x = true) := by
    cases hx : x with
    | true =>
      right
      refine ⟨?_, rfl⟩
      have c1 : x1 = true := by rcases hn g1 with ⟨_, q, _⟩ | ⟨q, _⟩; rw [hx] at q; cases q; exact q
      have c2 : x2 = true := by rcases hn g2 with ⟨_, q, _⟩ | ⟨q, _⟩; rw [c1] at q; cases q; exact q
      have c3 : x3 = true := by rcases g3 with ⟨_, q, _⟩ | ⟨q, _⟩; rw [c2] at q; cases q; exact q
      have c4 : x4 = true := by rcases g4 with ⟨_, q, _⟩ | ⟨q, _⟩; rw [c3] at q; cases q; exact q
      have c5 : x5 = true := by rcases g5 with ⟨_, q, _⟩ | ⟨q, _⟩; rw [c4] at q; cases q; exact q
      have c6 : x6 = true := by rcases hn g6 with ⟨_, q, _⟩ | ⟨q, _⟩; rw [c5] at q; cases q; exact q
      have c7 : x7 = true := by rcases hn g7 with ⟨_, q, _⟩ | ⟨q, _⟩; rw [c6] at q; cases q; exact q
      have c8 : x8 = true := by rcases hn g8 with ⟨_, q, _⟩ | ⟨q, _⟩; rw [c7] at q; cases q; exact q
      have c9 : x9 = true := by rcases hn g9 with ⟨_, q, _⟩ | ⟨q, _⟩; rw [c8] at q; cases q; exact q
      cases hy : y with
      | true => rfl
      | false => have := (hI.1 hy).1; rw [c9] at this; cases this
    | false =>
      left
      refine ⟨rfl, ?_⟩
      have fin : x9 = false → x8 = false → cQ_ 1 d8.r = some (v9, d9.r) → dk_ d8.r = some ((v9 : Int), d9.r) := fun _ _ h => fL_ h
      rcases hn g1 with ⟨c1, _, e1⟩ | ⟨c1, q⟩
      case inr =>
        have h1 : cQ_ 1 d.r = none := q.elim (fun q => by rw [hx] at q; cases q) id
        have hy : y = true := by
          have c2 : x2 = true := by rcases hn g2 with ⟨_, q, _⟩ | ⟨q, _⟩; rw [c1] at q; cases q; exact q
          have c3 : x3 = true := by rcases g3 with ⟨_, q, _⟩ | ⟨q, _⟩; rw [c2] at q; cases q; exact q
          have c4 : x4 = true := by rcases g4 with ⟨_, q, _⟩ | ⟨q, _⟩; rw [c3] at q; cases q; exact q
          have c5 : x5 = true := by rcases g5 with ⟨_, q, _⟩ | ⟨q, _⟩; rw [c4] at q; cases q; exact q
          have c6 : x6 = true := by rcases hn g6 with ⟨_, q, _⟩ | ⟨q, _⟩; rw [c5] at q; cases q; exact q
          have c7 : x7 = true := by rcases hn g7 with ⟨_, q, _⟩ | ⟨q, _⟩; rw [c6] at q; cases q; exact q
          have c8 : x8 = true := by rcases hn g8 with ⟨_, q, _⟩ | ⟨q, _⟩; rw [c7] at q; cases q; exact q
          have c9 : x9 = true := by rcases hn g9 with ⟨_, q, _⟩ | ⟨q, _⟩; rw [c8] at q; cases q; exact q
          cases hy : y with
          | true => rfl
          | false => have := (hI.1 hy).1; rw [c9] at this; cases this
        rw [if_pos hy, cY_, hs_ h1]; rfl
      rcases hn g2 with ⟨c2, _, e2⟩ | ⟨c2, q⟩
      case inr =>
        have h2 : cQ_ 1 d1.r = none := q.elim (fun q => by rw [c1] at q; cases q) id
        have hy : y = true := by
          have c3 : x3 = true := by rcases g3 with ⟨_, q, _⟩ | ⟨q, _⟩; rw [c2] at q; cases q; exact q
          have c4 : x4 = true := by rcases g4 with ⟨_, q, _⟩ | ⟨q, _⟩; rw [c3] at q; cases q; exact q
          have c5 : x5 = true := by rcases g5 with ⟨_, q, _⟩ | ⟨q, _⟩; rw [c4] at q; cases q; exact q
          have c6 : x6 = true := by rcases hn g6 with ⟨_, q, _⟩ | ⟨q, _⟩; rw [c5] at q; cases q; exact q
          have c7 : x7 = true := by rcases hn g7 with ⟨_, q, _⟩ | ⟨q, _⟩; rw [c6] at q; cases q; exact q
          have c8 : x8 = true := by rcases hn g8 with ⟨_, q, _⟩ | ⟨q, _⟩; rw [c7] at q; cases q; exact q
          have c9 : x9 = true := by rcases hn g9 with ⟨_, q, _⟩ | ⟨q, _⟩; rw [c8] at q; cases q; exact q
          cases hy : y with
          | true => rfl
          | false => have := (hI.1 hy).1; rw [c9] at this; cases this
        rw [if_pos hy, cY_, fL_ e1, Option.bind_some, hs_ h2]; rfl
      have lastY : x9 = true → y = true := fun c9 => by
        cases hy : y with
        | true => rfl
        | false => have := (hI.1 hy).1; rw [c9] at this; cases this
      have y9 : x8 = true → y = true := fun c8 => lastY (by rcases hn g9 with ⟨_, q, _⟩ | ⟨q, _⟩; rw [c8] at q; cases q; exact q)
      have y8 : x7 = true → y = true := fun c => y9 (by rcases hn g8 with ⟨_, q, _⟩ | ⟨q, _⟩; rw [c] at q; cases q; exact q)
      have y7 : x6 = true → y = true := fun c => y8 (by rcases hn g7 with ⟨_, q, _⟩ | ⟨q, _⟩; rw [c] at q; cases q; exact q)
      have y6 : x5 = true → y = true := fun c => y7 (by rcases hn g6 with ⟨_, q, _⟩ | ⟨q, _⟩; rw [c] at q; cases q; exact q)
      have y5 : x4 = true → y = true := fun c => y6 (by rcases g5 with ⟨_, q, _⟩ | ⟨q, _⟩; rw [c] at q; cases q; exact q)
      have y4 : x3 = true → y = true := fun c => y5 (by rcases g4 with ⟨_, q, _⟩ | ⟨q, _⟩; rw [c] at q; cases q; exact q)
      rw [cY_, fL_ e1, Option.bind_some, fL_ e2, Option.bind_some]
      rcases g3 with ⟨c3, _, e3⟩ | ⟨c3, q⟩
      case inr => rw [if_pos (y4 c3), q.elim (fun q => by rw [c2] at q; cases q) id]; rfl
      rw [e3, Option.bind_some]
      rcases g4 with ⟨c4, _, e4⟩ | ⟨c4, q⟩
      case inr => rw [if_pos (y5 c4), q.elim (fun q => by rw [c3] at q; cases q) id]; rfl
      rw [e4, Option.bind_some]
      rcases g5 with ⟨c5, _, e5⟩ | ⟨c5, q⟩
      case inr => rw [if_pos (y6 c5), q.elim (fun q => by rw [c4] at q; cases q) id]; rfl
      rw [e5, Option.bind_some]
      rcases hn g6 with ⟨c6, _, e6⟩ | ⟨c6, q⟩
      case inr => rw [if_pos (y7 c6), lC_ (q.elim (fun q => by rw [c5] at q; cases q) id)]; rfl
      rw [lB_ e6, Option.bind_some]
      rcases hn g7 with ⟨c7, _, e7⟩ | ⟨c7, q⟩
      case inr => rw [if_pos (y8 c7), lC_ (q.elim (fun q => by rw [c6] at q; cases q) id)]; rfl
      rw [lB_ e7, Option.bind_some]
      rcases hn g8 with ⟨c8, _, e8⟩ | ⟨c8, q⟩
      case inr => rw [if_pos (y9 c8), mq_ (q.elim (fun q => by rw [c7] at q; cases q) id)]; rfl
      by_cases hv : v8 ≤ 2147483647
      case neg =>
        have c9 : x9 = true := by
          rcases hn g9 with ⟨_, q, _⟩ | ⟨q, _⟩
          · rw [c8, Bool.false_or, decide_eq_false_iff_not] at q; omega
          · exact q
        rw [if_pos (lastY c9), mr_ e8 hv]; rfl
      rw [je_ e8 hv, Option.bind_some]
      have hf : (x8 || decide (2147483647 < (v8 : Int))) = false := by rw [c8, Bool.false_or, decide_eq_false_iff_not]; omega
      rcases hn g9 with ⟨c9, _, e9⟩ | ⟨c9, q⟩
      case inr => rw [if_pos (lastY c9), hs_ (q.elim (fun q => by rw [hf] at q; cases q) id)]; rfl
      rw [fL_ e9, Option.bind_some, Int.toNat_natCast]
      cases hy : y with
      | true =>
        rcases hI.2 hy with q | q
        · rw [c9] at q; cases q
        · rw [q]; rfl
      | false =>
        have hi' : v9 ≤ i := hi.elim (fun q => by rw [hy] at q; cases q) id
        rw [kX_ (hI.1 hy).2 hi']; rfl
  rcases key with ⟨k1, k2⟩ | ⟨k1, k2⟩
  · cases hy : y with
    | true => rw [hy, if_pos rfl] at k2; exact .inr ⟨rfl, .inr k2⟩
    | false => rw [hy, if_neg (by decide)] at k2; exact .inl ⟨rfl, k1, k2⟩
  · exact .inr ⟨k1, .inl k2⟩
def np_ (n : Nat) (d : Dst) (x : Bool) (i : Nat) (l : List Ds) (e : Dst) (y : Bool) : Prop := (y = false → x = false ∧ cy_ n d.r = (cy_ (n - i) e.r).map fun z => (l ++ z.1, z.2)) ∧ (y = true → x = true ∨ cy_ n d.r = none)
theorem mF_ (n : Nat) (d : Dst) (x : Bool) : np_ n d x 0 [] d x := ⟨fun h => ⟨h, by simp⟩, fun h => .inl h⟩
theorem mG_ {n i : Nat} {d e e' : Dst} {x y y' : Bool} {l : List Ds} {s : Ds} (h : np_ n d x i l e y) (hi : i < n) (hy : y = false) (hg : oL_ e y s e' y') : np_ n d x (i + 1) (l ++ [s]) e' y' := by
  obtain ⟨h1, _⟩ := h
  obtain ⟨q1, q2⟩ := h1 hy
  constructor
  · intro h0
    rcases hg with ⟨_, _, g3⟩ | ⟨g1, _⟩
    · refine ⟨q1, ?_⟩
      obtain ⟨k, hk⟩ : ∃ k, n - i = k + 1 := ⟨n - i - 1, by omega⟩
      rw [q2, hk, show n - (i + 1) = k by omega, cy_, g3, Option.bind_some, Option.map_map]
      congr 1
      funext z
      simp
    · rw [h0] at g1; cases g1
  · intro h0
    right
    rcases hg with ⟨g1, _, _⟩ | ⟨_, g2⟩
    · rw [h0] at g1; cases g1
    · rcases g2 with g2 | g2
      · rw [hy] at g2; cases g2
      · obtain ⟨k, hk⟩ : ∃ k, n - i = k + 1 := ⟨n - i - 1, by omega⟩
        rw [q2, hk, cy_, g2]; rfl
theorem pS_ {d d1 e : Dst} {x1 y : Bool} {n i : Nat} {l : List Ds} (hg : gY_ 4 d false n d1 x1) (hS : np_ n d1 x1 i l e y) (hi : y = true ∨ n ≤ i ∨ 65536 < n) (h : y = true ∨ e.r ≠ [] ∨ 65536 < n) : hp_ d.r = none := by
  rw [dn_]
  rcases hg.2 with ⟨c1, _, e1⟩ | ⟨c1, q⟩
  · by_cases hv : n ≤ 2147483647
    · rw [je_ e1 hv, Option.bind_some]
      by_cases hn : n ≤ 65536
      · rw [if_pos (by omega), Int.toNat_natCast]
        cases hy : y with
        | true =>
          rcases hS.2 hy with q | q
          · rw [c1] at q; cases q
          · rw [q]; rfl
        | false =>
          have hi' : n ≤ i := by rcases hi with q | q | q; rw [hy] at q; cases q; exact q; omega
          have he : e.r ≠ [] := by rcases h with q | q | q; rw [hy] at q; cases q; exact q; omega
          have := (hS.1 hy).2
          rw [this, show n - i = 0 by omega]
          simp [cy_, he]
      · rw [if_neg (by omega)]
    · rw [mr_ e1 hv]; rfl
  · rw [mq_ (q.elim (fun q => by cases q) id)]; rfl
theorem oC_ {d d1 e : Dst} {x1 : Bool} {n i : Nat} {l : List Ds} (hg : gY_ 4 d false n d1 x1) (hS : np_ n d1 x1 i l e false) (hi : n ≤ i) (he : e.r = []) (hn : n ≤ 65536) : hp_ d.r = some l := by
  obtain ⟨q1, q2⟩ := hS.1 rfl
  rcases hg.2 with ⟨c1, _, e1⟩ | ⟨c1, _⟩
  · rw [dn_, je_ e1 (by omega), Option.bind_some, if_pos (by omega), Int.toNat_natCast, q2, show n - i = 0 by omega]
    simp [cy_, he]
  · rw [q1] at c1; cases c1
end Go.Vs
