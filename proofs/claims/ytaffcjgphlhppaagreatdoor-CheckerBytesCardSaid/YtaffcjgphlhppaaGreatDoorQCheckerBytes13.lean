/-
  Part of the proof of the law CheckerBytes over this seat: the small logic, the data, the contracts of functions (no condition).
-/
import Derived.Test.YtaffcjgphlhppaaGreatDoorQCheckerBytes12
import Derived.Test.YtaffcjgphlhppaaGreatDoorQCheckerBytes6
import Derived.Test.YtaffcjgphlhppaaGreatDoorQCheckerBytes7
import Derived.Test.YtaffcjgphlhppaaGreatDoorQCheckerBytes5
import Derived.Test.YtaffcjgphlhppaaGreatDoorQCheckerBytes3
import Derived.Test.YtaffcjgphlhppaaGreatDoorRows
set_option linter.unusedVariables false
set_option linter.unusedSimpArgs false
set_option linter.unusedSectionVars false
namespace Go.Proofs.YtaffcjgphlhppaaGreatDoor
open Go Go.Sx Go.Proofs
attribute [local irreducible] Code.wp wpList wpAnyH
open Go.Vs
theorem jy_ : gH_ Tryz.prog 97 [(0, 1), (1, 1)] [.slice none 0 0, .bool false] := ⟨_, cU_, bK_, fun w => by simp [aI_, ct_]⟩
theorem hO_ {P : Program} {N : Nf} {fr : Fr} {H : Hp} {fn : Func} {t s c n : Nat} {ty2 T2 : TypeId} {u : Value} {us : List Value} (j : Nat) (hr : fn.results = #[.tmp t, .cell s ty2]) (ha : ∀ w, (isAgg ty2).run P w = .ok true w) (hs : ∀ w, (sizeOf ty2).run P w = .ok n w) (hn : us.length = n)
    (hx : Fr.get fr t = some u) (hx2 : Fr.get fr s = some (zp_ c 0)) (hj : H[j]? = some (c, .cells us.toArray T2 (0, 0))) (a : Act) (v : Vw) (h1 : Fr.sat N fr a) (h2 : v.sat H) :
    (results fn a.tmps).run P v.w = .ok (.tuple #[u, .agg us.toArray]) v.w := by
  have e := h1.val t _ hx
  have e2 := h1.val s _ hx2
  have hl := bX_ (t := ty2) (w := v.w) (b := c) (off := 0) ha hs hn (fun j y hj' => by rw [Nat.zero_add, ds_ h2 hj]; simpa using hj')
  simp [results, hr, e, e2, asAddr, hl]
theorem res_cc {P : Program} {N : Nf} {fr : Fr} {H : Hp} {fn : Func} {t s b c n m : Nat} {ty ty2 T T2 : TypeId} {us vs : List Value} (i j : Nat) (hr : fn.results = #[.cell t ty, .cell s ty2]) (ha : ∀ w, (isAgg ty).run P w = .ok true w) (hs : ∀ w, (sizeOf ty).run P w = .ok n w) (hn : us.length = n) (ha2 : ∀ w, (isAgg ty2).run P w = .ok true w) (hs2 : ∀ w, (sizeOf ty2).run P w = .ok m w) (hm : vs.length = m)
    (hx : Fr.get fr t = some (zp_ b 0)) (hx2 : Fr.get fr s = some (zp_ c 0)) (hi : H[i]? = some (b, .cells us.toArray T (0, 0))) (hj : H[j]? = some (c, .cells vs.toArray T2 (0, 0))) (a : Act) (v : Vw) (h1 : Fr.sat N fr a) (h2 : v.sat H) :
    (results fn a.tmps).run P v.w = .ok (.tuple #[.agg us.toArray, .agg vs.toArray]) v.w := by
  have e := h1.val t _ hx
  have e2 := h1.val s _ hx2
  have hl := bX_ (t := ty) (w := v.w) (b := b) (off := 0) ha hs hn (fun j y hj' => by rw [Nat.zero_add, ds_ h2 hi]; simpa using hj')
  have hl2 := bX_ (t := ty2) (w := v.w) (b := c) (off := 0) ha2 hs2 hm (fun j y hj' => by rw [Nat.zero_add, ds_ h2 hj]; simpa using hj')
  simp [results, hr, e, e2, asAddr, hl, hl2]
theorem nR_ {P : Program} {N : Nf} {fr : Fr} {H : Hp} {fn : Func} {t s b n : Nat} {ty T : TypeId} {u : Value} {us : List Value} (i : Nat) (hr : fn.results = #[.cell t ty, .tmp s]) (ha : ∀ w, (isAgg ty).run P w = .ok true w) (hs : ∀ w, (sizeOf ty).run P w = .ok n w) (hn : us.length = n)
    (hx : Fr.get fr t = some (zp_ b 0)) (hx2 : Fr.get fr s = some u) (hi : H[i]? = some (b, .cells us.toArray T (0, 0))) (a : Act) (v : Vw) (h1 : Fr.sat N fr a) (h2 : v.sat H) :
    (results fn a.tmps).run P v.w = .ok (.tuple #[.agg us.toArray, u]) v.w := by
  have e := h1.val t _ hx
  have e2 := h1.val s _ hx2
  have hl := bX_ (t := ty) (w := v.w) (b := b) (off := 0) ha hs hn (fun j y hj' => by rw [Nat.zero_add, ds_ h2 hi]; simpa using hj')
  simp [results, hr, e, e2, asAddr, hl]
theorem me_ (d : Dst) (x : Bool) (hok : d.ok) (n : Nat) (hn : n ≤ 70000) : Tri Tryz.prog 93 #[.agg #[.slice (Dst.ad d) (List.length (Dst.r d)) (Dst.cap d), .bool x], .int .i64 (n : Int)] [] [aY_ (Dst.ad d) (List.flatMap u8C (Dst.r d))] (fun y : {y : (Str × Option Addr × Nat) × Dst × Bool // lm_ n d x y.1.1 y.2.1 y.2.2 ∧ y.2.1.ok} => .tuple #[.slice y.1.1.2.1 (List.length y.1.1.1) y.1.1.2.2, .agg #[.slice (Dst.ad y.1.2.1) (List.length (Dst.r y.1.2.1)) (Dst.cap y.1.2.1), .bool y.1.2.2]]) (fun _ => []) (fun y => [aY_ y.1.1.2.1 (List.flatMap u8C y.1.1.1), aY_ (Dst.ad y.1.2.1) (List.flatMap u8C (Dst.r y.1.2.1))]) := by
  refine S_ Tryz.func93 rfl rfl Tryz.ntmps93 rfl fun v0 => ?_
  refine g_ (c_ (aM_ rfl rfl fun b1 => ?_))
  refine a_ (e_ rfl) rfl (Z_ cU_ rfl fun b2 => ?_)
  refine d_ (b_ rfl (g_ (g_ (c_ (a_ (h_ bK_ rfl rfl rfl aI_) rfl (a_ (n_ 1 bg_ rfl rfl rfl) rfl (a_ (f_ rfl) rfl ?_)))))))
  cases x
  · skip
    refine i_ rfl rfl (a_ (f_ rfl) rfl (i_ rfl rfl (a_ (h_ bK_ rfl rfl rfl ct_) rfl (i_ rfl rfl (a_ (n_ 1 dX_ rfl rfl rfl) rfl (i_ rfl rfl (a_ (aA_ aE_ rfl) rfl (i_ rfl rfl (E_ (bp_ rfl rfl) rfl fun r1 hr1 => ?_)))))))))
    refine a_ (t_ rfl rfl) rfl (d_ (b_ rfl ?_))
    cases r1
    · skip
      replace hr1 := of_decide_eq_false hr1
      refine A_ rfl (J_ (b_ rfl (g_ ?_)))
      refine cn_ ((b1, .cells #[.slice (Dst.ad d) (List.length (Dst.r d)) (Dst.cap d), .bool false] 97 (0, 0)) :: []) (by kernel_rfl) ?_
      refine P_ 1 [0, 1, 2, 3, 4, 5, 6, 7, 8, 9] (by kernel_rfl) (fun _ a b => ⟨a.tail, b⟩) (m_ rfl (h_ bK_ rfl rfl rfl ct_) rfl (m_ rfl (n_ 0 dX_ rfl rfl rfl) rfl (m_ rfl (f_ rfl) rfl (m_ rfl (ch_ (dE_ (i := 0) (j := n) (kl := .i64) (kh := .i64) aE_ cI_ rfl rfl rfl (by omega) (by have := hok.1; omega)) (show _ = Value.slice (sad (Dst.ad d) (Dst.cap d) 0 1) (List.length (List.take n (Dst.r d))) ((Dst.cap d) - 0) by rw [List.length_take, Nat.min_eq_left (by omega)]; rfl)) rfl (m_ rfl (h_ bK_ rfl rfl rfl ct_) rfl (m_ rfl (n_ 0 dX_ rfl rfl rfl) rfl (m_ rfl (f_ rfl) rfl (m_ rfl (ch_ (dE_ (i := n) (j := List.length (Dst.r d)) (kl := .i64) (kh := .i64) aE_ cI_ rfl rfl rfl (by omega) (by have := hok.1; omega)) (show _ = Value.slice (sad (Dst.ad d) (Dst.cap d) n 1) (List.length (List.drop n (Dst.r d))) ((Dst.cap d) - n) by rw [List.length_drop])) rfl (m_ rfl (ax_ jy_ rfl rfl) rfl ?_)))))))))
      refine m_ rfl (e_ rfl) rfl (O_ (L_ 10 rfl (by kernel_rfl) (Q_ 0 aq_ rfl rfl rfl rfl rfl rfl (d_ (p_ rfl (D_ (fun _ a b => ⟨a.tail, b⟩) (T_ (by kernel_rfl) (b_ rfl (u_ ?_)))))))))
      have k1 : List.length (List.drop n (Dst.r d)) ≤ ((Dst.cap d) - n) := (by rw [List.length_drop]; have := hok.1; omega)
      have k2 : ((Dst.cap d) - n) ≤ maxLen := by have := hok.2.1; omega
      have k3 : (sad (Dst.ad d) (Dst.cap d) n 1) = none → ((Dst.cap d) - n) = 0 := (fun q => by have := hok.2.2 (fz_ q); omega)
      exact et_ ⟨(((List.take n (Dst.r d)), (sad (Dst.ad d) (Dst.cap d) 0 1), ((Dst.cap d) - 0)), ((Dst.mk (sad (Dst.ad d) (Dst.cap d) n 1) ((Dst.cap d) - n) (List.drop n (Dst.r d))), false)), nA_ (by omega) rfl, ⟨k1, k2, k3⟩⟩ (fun aa v h1 h2 => hO_ (us := [.slice (sad (Dst.ad d) (Dst.cap d) n 1) (List.length (List.drop n (Dst.r d))) ((Dst.cap d) - n), .bool false]) 0 Tryz.results93 by_ aq_ rfl rfl rfl rfl aa v h1 h2) x_ (fun v _ h => by exact ⟨(bV_.slice dZ_ h.1 hok.1 0 n), (bV_.rest dZ_ h.1 hok.1 n), trivial⟩)
    · skip
      replace hr1 := of_decide_eq_true hr1
      refine w_ rfl (g_ (c_ (a_ (f_ rfl) rfl (he_ (n := n) (by' := 1) bS_ (z := .int .u8 0) (by kernel_rfl) rfl (by decide) rfl rfl (by omega) (by simp only [maxLen]; omega) rfl fun svZ HrZ hrZ => ?_))))
      have hqZ : bi_ 5 1 svZ (List.length (List.replicate n (0 : UInt8))) (List.flatMap u8C (List.replicate n (0 : UInt8))) HrZ := by rw [List.length_replicate, ← hA_ u8C]; exact hrZ
      refine cf_ hqZ bM_ fun zad zcap hzad hczad hmzad hzzad => ?_
      subst hzad
      refine a_ (ax_ jy_ rfl rfl) rfl (a_ (e_ rfl) rfl (Q_ 0 aq_ rfl rfl rfl rfl rfl rfl (d_ (b_ rfl (u_ ?_)))))
      exact et_ ⟨(((List.replicate n (0 : UInt8)), zad, zcap), ((Dst.mk none 0 []), true)), iI_ (by simp) (by first | exact .inl rfl | (right; omega)), ⟨Nat.le_refl _, Nat.zero_le _, fun _ => rfl⟩⟩ (fun aa v h1 h2 => hO_ (us := [.slice none 0 0, .bool true]) 0 Tryz.results93 by_ aq_ rfl rfl rfl rfl aa v h1 h2) x_ (fun v _ h => by exact ⟨h.1, .inl rfl, trivial⟩)
  · skip
    refine k_ rfl rfl rfl rfl (k_ rfl rfl rfl rfl (k_ rfl rfl rfl rfl (k_ rfl rfl rfl rfl (k_ rfl rfl rfl rfl (a_ (v_ rfl rfl) rfl (d_ (b_ rfl (w_ rfl (g_ ?_)))))))))
    refine c_ (a_ (f_ rfl) rfl (he_ (n := n) (by' := 1) bS_ (z := .int .u8 0) (by kernel_rfl) rfl (by decide) rfl rfl (by omega) (by simp only [maxLen]; omega) rfl fun svZ HrZ hrZ => ?_))
    have hqZ : bi_ 5 1 svZ (List.length (List.replicate n (0 : UInt8))) (List.flatMap u8C (List.replicate n (0 : UInt8))) HrZ := by rw [List.length_replicate, ← hA_ u8C]; exact hrZ
    refine cf_ hqZ bM_ fun zad zcap hzad hczad hmzad hzzad => ?_
    subst hzad
    refine a_ (ax_ jy_ rfl rfl) rfl (a_ (e_ rfl) rfl (Q_ 0 aq_ rfl rfl rfl rfl rfl rfl (d_ (b_ rfl (u_ ?_)))))
    exact et_ ⟨(((List.replicate n (0 : UInt8)), zad, zcap), ((Dst.mk none 0 []), true)), iI_ (by simp) (by first | exact .inl rfl | (right; omega)), ⟨Nat.le_refl _, Nat.zero_le _, fun _ => rfl⟩⟩ (fun aa v h1 h2 => hO_ (us := [.slice none 0 0, .bool true]) 0 Tryz.results93 by_ aq_ rfl rfl rfl rfl aa v h1 h2) x_ (fun v _ h => by exact ⟨h.1, .inl rfl, trivial⟩)
theorem fj_ (d : Dst) (x : Bool) (hok : d.ok) (n : Nat) (hn : n ≤ 8) : Tri Tryz.prog 45 #[.agg #[.slice (Dst.ad d) (List.length (Dst.r d)) (Dst.cap d), .bool x], .int .i64 (n : Int)] [] [aY_ (Dst.ad d) (List.flatMap u8C (Dst.r d))] (fun y : {y : Nat × Dst × Bool // gY_ n d x y.1 y.2.1 y.2.2 ∧ y.2.1.ok} => .tuple #[.int .u64 (y.1.1 : Int), .agg #[.slice (Dst.ad y.1.2.1) (List.length (Dst.r y.1.2.1)) (Dst.cap y.1.2.1), .bool y.1.2.2]]) (fun _ => []) (fun y => [aY_ (Dst.ad y.1.2.1) (List.flatMap u8C (Dst.r y.1.2.1))]) := by
  refine S_ Tryz.func45 rfl rfl Tryz.ntmps45 rfl fun v0 => ?_
  refine g_ (c_ (aM_ rfl rfl fun b1 => ?_))
  refine a_ (e_ rfl) rfl (Z_ cU_ rfl fun b2 => ?_)
  refine d_ (b_ rfl (g_ (c_ (a_ (M_ 1 by_ aq_ rfl rfl rfl) rfl (a_ (f_ rfl) rfl (K_ (me_ d x hok n (by omega)) rfl x_ (fun v _ h => by exact ⟨h.1, trivial⟩) rfl fun ⟨⟨⟨L1, la1, lc1⟩, e1, y1⟩, hT1, hke1⟩ => ?_))))))
  dsimp only
  try dsimp only at hT1 hke1
  refine a_ (f_ rfl) rfl (a_ (V_ rfl rfl) rfl (a_ (V_ rfl rfl) rfl (Z_ cU_ rfl fun b3 => ?_)))
  refine a_ (e_ rfl) rfl (Q_ 0 aq_ rfl rfl rfl rfl rfl rfl (d_ (b_ rfl (g_ (c_ (a_ (e_ rfl) rfl (d_ (b_ rfl (g_ ?_)))))))))
  refine g_ (c_ (a_ (e_ rfl) rfl (d_ (b_ rfl (ae_ ?_)))))
  have hl9 : List.length L1 ≤ 8 := by have := hT1.1; omega
  refine bt_ (ι := {y : Nat // y ≤ List.length L1}) (fun y => [(4, .int .u64 0), (5, zp_ b2 0), (7, zp_ b3 0), (6, .slice la1 (List.length L1) lc1), (8, .int .u64 (beN (List.take y.1 L1) : Int)), (9, .int .i64 (y.1 : Int))]) (fun y => ((b3, .cells #[.slice (Dst.ad e1) (List.length (Dst.r e1)) (Dst.cap e1), .bool y1] 97 (0, 0)) :: ((b2, .cells #[.slice none 0 0, .bool false] 97 (0, 0)) :: []))) (fun y => [aY_ la1 (List.flatMap u8C L1), aY_ (Dst.ad e1) (List.flatMap u8C (Dst.r e1)), aY_ (Dst.ad d) (List.flatMap u8C (Dst.r d))]) (fun y => List.length L1 - y.1) ⟨(0 : Nat), by simp⟩ ⟨rfl, rfl, rfl, rfl, rfl, rfl, trivial⟩ (N_ C_ C_) (fun _ _ h => h) ?_
  rintro ⟨i, hi_i⟩
  dsimp only at hi_i ⊢
  refine g_ (g_ (c_ (a_ (f_ rfl) rfl (a_ (f_ rfl) rfl (a_ (aA_ aE_ rfl) rfl (E_ (au_ rfl rfl) rfl fun r1 hr1 => ?_))))))
  refine d_ (b_ rfl ?_)
  cases r1
  · skip
    replace hr1 := of_decide_eq_false hr1
    refine A_ rfl (bj_ rfl (b_ rfl (g_ ?_)))
    refine cn_ ((b3, .cells #[.slice (Dst.ad e1) (List.length (Dst.r e1)) (Dst.cap e1), .bool y1] 97 (0, 0)) :: []) (by kernel_rfl) ?_
    refine P_ 1 [0, 1, 2] (by kernel_rfl) (fun _ a b => ⟨Vw.sat.sub (a.perm C_), b⟩) (m_ rfl (f_ rfl) rfl (m_ rfl (M_ 0 by_ aq_ rfl rfl rfl) rfl (m_ rfl (e_ rfl) rfl (O_ (L_ 3 rfl (by kernel_rfl) (Q_ 1 aq_ rfl rfl rfl rfl rfl rfl (d_ (p_ rfl (D_ (fun _ a b => ⟨Vw.sat.sub (a.perm C_), b⟩) ?_)))))))))
    refine T_ (by kernel_rfl) (b_ rfl (u_ ?_))
    have e9 : List.take i L1 = L1 := List.take_of_length_le (by omega)
    exact et_ ⟨(beN L1, e1, y1), pK_ hT1, hke1⟩ (fun aa v h1 h2 => hO_ (us := [.slice (Dst.ad e1) (List.length (Dst.r e1)) (Dst.cap e1), .bool y1]) 1 Tryz.results45 by_ aq_ rfl (aH_ rfl (by rw [e9])) rfl rfl aa v h1 h2) x_ (fun v _ h => by exact ⟨h.2.1, trivial⟩)
  · skip
    replace hr1 := of_decide_eq_true hr1
    have hlx1 : i < List.length L1 := by omega
    obtain ⟨x1, hx1⟩ : ∃ e0, L1[i]? = some e0 := ⟨_, List.getElem?_eq_getElem hlx1⟩
    have hmx1 : x1 ∈ L1 := List.mem_of_getElem? hx1
    refine w_ rfl (J_ (b_ rfl (g_ (ae_ (c_ (a_ (f_ rfl) rfl (a_ (kh_ (m := beN (List.take i L1)) rfl rfl (jB_ hlx1 (by have := hT1.1; omega))) rfl (a_ (f_ rfl) rfl (a_ (f_ rfl) rfl ?_)))))))))
    refine a_ (an_ aE_ cI_ rfl rfl (fun v _ h => ba_ (n := 1) dZ_ (by decide) (by exact h.1) hx1) (by omega) (by first | omega | (simp; done))) rfl (a_ (bE_ (ad := la1) Tryz.isAgg5 rfl (fun v _ h => by exact h.1) (ar_ dZ_ hx1 0 _ rfl)) rfl (a_ (bZ_ bx_ aZ_ rfl (ki_ (by omega) (by have := UInt8.toNat_lt x1; omega))) rfl (a_ (lU_ (m := beN (List.take i L1)) (c := UInt8.toNat x1) rfl rfl (jB_ hlx1 (by have := hT1.1; omega)) (by have := UInt8.toNat_lt x1; omega)) rfl (a_ (e_ rfl) rfl (d_ (b_ rfl (c_ (a_ (f_ rfl) rfl (a_ (ag_ rfl rfl rfl (aS_ (by omega) (by omega))) rfl ?_)))))))))
    refine a_ (e_ rfl) rfl (d_ (p_ rfl ?_))
    exact aU_ ⟨i + 1, hlx1⟩ (by dsimp only; omega) ⟨rfl, rfl, rfl, rfl, (congrArg some (congrArg (Value.int .u64) (by dsimp only; rw [mA_ hx1]))), rfl, trivial⟩ (N_ C_ C_) (fun _ _ h => h)
end Go.Proofs.YtaffcjgphlhppaaGreatDoor
namespace Go.Proofs.YtaffcjgphlhppaaGreatDoor
open Go Go.Sx Go.Proofs
attribute [local irreducible] Code.wp wpList wpAnyH
open Go.Vs
theorem gR_ (d : Dst) (x : Bool) (hok : d.ok) : Tri Tryz.prog 94 #[.agg #[.slice (Dst.ad d) (List.length (Dst.r d)) (Dst.cap d), .bool x]] [] [aY_ (Dst.ad d) (List.flatMap u8C (Dst.r d))] (fun y : {y : Str × Dst × Bool // ll_ d x y.1 y.2.1 y.2.2 ∧ y.2.1.ok} => .tuple #[str y.1.1, .agg #[.slice (Dst.ad y.1.2.1) (List.length (Dst.r y.1.2.1)) (Dst.cap y.1.2.1), .bool y.1.2.2]]) (fun _ => []) (fun y => [aY_ (Dst.ad y.1.2.1) (List.flatMap u8C (Dst.r y.1.2.1))]) := by
  refine S_ Tryz.func94 rfl rfl Tryz.ntmps94 rfl fun v0 => ?_
  refine g_ (c_ (aM_ rfl rfl fun b1 => ?_))
  refine a_ (e_ rfl) rfl (Z_ cU_ rfl fun b2 => ?_)
  refine d_ (b_ rfl (g_ (c_ (a_ (M_ 1 by_ aq_ rfl rfl rfl) rfl (K_ (fj_ d x hok 2 (by decide)) rfl x_ (fun v _ h => by exact ⟨h.1, trivial⟩) rfl fun ⟨⟨n1, e1, y1⟩, hge1, hke1⟩ => ?_)))))
  dsimp only
  try dsimp only at hge1 hke1
  refine a_ (f_ rfl) rfl (a_ (V_ rfl rfl) rfl (a_ (V_ rfl rfl) rfl (Z_ cU_ rfl fun b3 => ?_)))
  refine a_ (e_ rfl) rfl (Q_ 0 aq_ rfl rfl rfl rfl rfl rfl (d_ (b_ rfl (g_ (c_ (a_ (M_ 0 by_ aq_ rfl rfl rfl) rfl (a_ (f_ rfl) rfl (a_ (bZ_ aZ_ aT_ rfl (ej_ (by have := hge1.1; omega))) rfl (K_ (me_ e1 y1 hke1 n1 (by have := hge1.1; omega)) rfl x_ (fun v _ h => by exact ⟨h.1, trivial⟩) rfl fun ⟨⟨⟨L2, la2, lc2⟩, e2, y2⟩, hT2, hke2⟩ => ?_)))))))))
  dsimp only
  try dsimp only at hT2 hke2
  refine a_ (f_ rfl) rfl (a_ (V_ rfl rfl) rfl (a_ (V_ rfl rfl) rfl (Z_ cU_ rfl fun b4 => ?_)))
  refine a_ (e_ rfl) rfl (Q_ 0 aq_ rfl rfl rfl rfl rfl rfl (d_ (b_ rfl (g_ ?_))))
  refine cn_ ((b4, .cells #[.slice (Dst.ad e2) (List.length (Dst.r e2)) (Dst.cap e2), .bool y2] 97 (0, 0)) :: []) (by kernel_rfl) ?_
  refine P_ 1 [0, 1, 2, 3] (by kernel_rfl) (fun _ a b => ⟨Vw.sat.sub (a.perm C_), b⟩) (m_ rfl (f_ rfl) rfl (m_ rfl (ei_ bS_ bx_ bR_ rfl (fun v _ h => by exact h.1)) rfl (m_ rfl (M_ 0 by_ aq_ rfl rfl rfl) rfl (m_ rfl (e_ rfl) rfl (O_ (L_ 4 rfl (by kernel_rfl) (Q_ 2 aq_ rfl rfl rfl rfl rfl rfl (d_ (p_ rfl ?_)))))))))
  refine D_ (fun _ a b => ⟨Vw.sat.sub (a.perm C_), b⟩) (T_ (by kernel_rfl) (b_ rfl (u_ ?_)))
  exact et_ ⟨(L2, e2, y2), nv_ hge1 hT2, hke2⟩ (fun aa v h1 h2 => hO_ (us := [.slice (Dst.ad e2) (List.length (Dst.r e2)) (Dst.cap e2), .bool y2]) 2 Tryz.results94 by_ aq_ rfl rfl rfl rfl aa v h1 h2) x_ (fun v _ h => by exact ⟨h.2.1, trivial⟩)
set_option maxHeartbeats 1000000 in
theorem pg_ (d : Dst) (x : Bool) (hok : d.ok) : Tri Tryz.prog 46 #[.agg #[.slice (Dst.ad d) (List.length (Dst.r d)) (Dst.cap d), .bool x]] [] [aY_ (Dst.ad d) (List.flatMap u8C (Dst.r d))] (fun y : {y : Stp × Dst × Bool // oL_ d x y.1.ds y.2.1 y.2.2 ∧ y.2.1.ok} => .tuple #[Stp.val y.1.1, .agg #[.slice (Dst.ad y.1.2.1) (List.length (Dst.r y.1.2.1)) (Dst.cap y.1.2.1), .bool y.1.2.2]]) (fun _ => []) (fun y => [aY_ y.1.1.ad (List.flatMap dg_ y.1.1.frm), aY_ (Dst.ad y.1.2.1) (List.flatMap u8C (Dst.r y.1.2.1))]) := by
 refine S_ Tryz.func46 rfl rfl Tryz.ntmps46 rfl fun v0 => ?_
 refine g_ (c_ (aM_ rfl rfl fun b1 => ?_))
 refine Z_ bb_ rfl fun b2 => ?_
 refine Z_ cU_ rfl fun b3 => ?_
 refine d_ (b_ rfl (g_ (c_ (a_ (ax_ lt_ rfl rfl) rfl (Z_ bb_ rfl fun b4 => ?_)))))
 refine Q_ 0 ak_ rfl rfl rfl rfl rfl rfl (d_ (b_ rfl (g_ (c_ (a_ (e_ rfl) rfl (d_ (b_ rfl (g_ (c_ ?_)))))))))
 refine a_ (M_ 3 by_ aq_ rfl rfl rfl) rfl (K_ (fj_ d x hok 1 (by decide)) rfl x_ (fun v _ h => by exact ⟨h.1, trivial⟩) rfl fun ⟨⟨v1, e1, y1⟩, hge1, hke1⟩ => ?_)
 dsimp only
 try dsimp only at hge1 hke1
 refine a_ (f_ rfl) rfl (a_ (V_ rfl rfl) rfl (a_ (V_ rfl rfl) rfl (a_ (e_ rfl) rfl (Q_ 3 aq_ rfl rfl rfl rfl rfl rfl (d_ (b_ rfl (g_ (as_ (show List.Perm _ ((b4, .cells #[.int .i64 0, .int .i64 0, str [], str [], str [], .int .i64 0, .int .i64 0, .int .i64 0, .slice none (List.length ([] : List Int)) 0] 36 (0, 0)) :: ((b3, .cells #[.slice none 0 0, .bool false] 97 (0, 0)) :: ((b2, .cells #[.int .i64 0, .int .i64 0, str [], str [], str [], .int .i64 0, .int .i64 0, .int .i64 0, .slice none 0 0] 36 (0, 0)) :: ((b1, .cells #[.slice (Dst.ad e1) (List.length (Dst.r e1)) (Dst.cap e1), .bool y1] 97 (0, 0)) :: [])))) from .refl _) (c_ ?_)))))))))
 refine a_ (f_ rfl) rfl (a_ (bZ_ aZ_ aT_ rfl (ej_ (by have := hge1.1; omega))) rfl (a_ (h_ G_ rfl rfl rfl q_) rfl (Q_ 0 q_ rfl rfl rfl rfl rfl rfl (d_ (b_ rfl (g_ (as_ (show List.Perm _ ((b4, .cells #[.int .i64 (v1 : Int), .int .i64 0, str [], str [], str [], .int .i64 0, .int .i64 0, .int .i64 0, .slice none (List.length ([] : List Int)) 0] 36 (0, 0)) :: ((b3, .cells #[.slice none 0 0, .bool false] 97 (0, 0)) :: ((b2, .cells #[.int .i64 0, .int .i64 0, str [], str [], str [], .int .i64 0, .int .i64 0, .int .i64 0, .slice none 0 0] 36 (0, 0)) :: ((b1, .cells #[.slice (Dst.ad e1) (List.length (Dst.r e1)) (Dst.cap e1), .bool y1] 97 (0, 0)) :: [])))) from .refl _) (c_ (a_ (M_ 3 by_ aq_ rfl rfl rfl) rfl ?_)))))))))
 refine K_ (fj_ e1 y1 hke1 1 (by decide)) rfl x_ (fun v _ h => by exact ⟨h.1, trivial⟩) rfl fun ⟨⟨v2, e2, y2⟩, hge2, hke2⟩ => ?_
 dsimp only
 try dsimp only at hge2 hke2
 refine a_ (f_ rfl) rfl (a_ (V_ rfl rfl) rfl (a_ (V_ rfl rfl) rfl (a_ (e_ rfl) rfl (Q_ 3 aq_ rfl rfl rfl rfl rfl rfl (d_ (b_ rfl (g_ (as_ (show List.Perm _ ((b4, .cells #[.int .i64 (v1 : Int), .int .i64 0, str [], str [], str [], .int .i64 0, .int .i64 0, .int .i64 0, .slice none (List.length ([] : List Int)) 0] 36 (0, 0)) :: ((b3, .cells #[.slice none 0 0, .bool false] 97 (0, 0)) :: ((b2, .cells #[.int .i64 0, .int .i64 0, str [], str [], str [], .int .i64 0, .int .i64 0, .int .i64 0, .slice none 0 0] 36 (0, 0)) :: ((b1, .cells #[.slice (Dst.ad e2) (List.length (Dst.r e2)) (Dst.cap e2), .bool y2] 97 (0, 0)) :: [])))) from .refl _) (c_ ?_)))))))))
 refine a_ (f_ rfl) rfl (a_ (bZ_ aZ_ aT_ rfl (ej_ (by have := hge2.1; omega))) rfl (a_ (h_ G_ rfl rfl rfl l_) rfl (a_ (h_ o_ rfl rfl rfl q_) rfl (Q_ 0 q_ rfl rfl rfl rfl rfl rfl (d_ (b_ rfl (g_ (as_ (show List.Perm _ ((b4, .cells #[.int .i64 (v1 : Int), .int .i64 (v2 : Int), str [], str [], str [], .int .i64 0, .int .i64 0, .int .i64 0, .slice none (List.length ([] : List Int)) 0] 36 (0, 0)) :: ((b3, .cells #[.slice none 0 0, .bool false] 97 (0, 0)) :: ((b2, .cells #[.int .i64 0, .int .i64 0, str [], str [], str [], .int .i64 0, .int .i64 0, .int .i64 0, .slice none 0 0] 36 (0, 0)) :: ((b1, .cells #[.slice (Dst.ad e2) (List.length (Dst.r e2)) (Dst.cap e2), .bool y2] 97 (0, 0)) :: [])))) from .refl _) (c_ ?_)))))))))
 refine a_ (M_ 3 by_ aq_ rfl rfl rfl) rfl (K_ (gR_ e2 y2 hke2) rfl x_ (fun v _ h => by exact ⟨h.1, trivial⟩) rfl fun ⟨⟨s3, e3, y3⟩, hge3, hke3⟩ => ?_)
 dsimp only
 try dsimp only at hge3 hke3
 refine a_ (f_ rfl) rfl (a_ (V_ rfl rfl) rfl (a_ (V_ rfl rfl) rfl (a_ (h_ G_ rfl rfl rfl l_) rfl (a_ (h_ o_ rfl rfl rfl y_) rfl (Q_ 0 y_ rfl rfl rfl rfl rfl rfl (Q_ 3 aq_ rfl rfl rfl rfl rfl rfl (d_ (b_ rfl (g_ ?_)))))))))
 refine as_ (show List.Perm _ ((b4, .cells #[.int .i64 (v1 : Int), .int .i64 (v2 : Int), str s3, str [], str [], .int .i64 0, .int .i64 0, .int .i64 0, .slice none (List.length ([] : List Int)) 0] 36 (0, 0)) :: ((b3, .cells #[.slice none 0 0, .bool false] 97 (0, 0)) :: ((b2, .cells #[.int .i64 0, .int .i64 0, str [], str [], str [], .int .i64 0, .int .i64 0, .int .i64 0, .slice none 0 0] 36 (0, 0)) :: ((b1, .cells #[.slice (Dst.ad e3) (List.length (Dst.r e3)) (Dst.cap e3), .bool y3] 97 (0, 0)) :: [])))) from .refl _) (c_ (a_ (M_ 3 by_ aq_ rfl rfl rfl) rfl (K_ (gR_ e3 y3 hke3) rfl x_ (fun v _ h => by exact ⟨h.1, trivial⟩) rfl fun ⟨⟨s4, e4, y4⟩, hge4, hke4⟩ => ?_)))
 dsimp only
 try dsimp only at hge4 hke4
 refine a_ (f_ rfl) rfl (a_ (V_ rfl rfl) rfl (a_ (V_ rfl rfl) rfl (a_ (h_ G_ rfl rfl rfl l_) rfl (a_ (h_ o_ rfl rfl rfl y_) rfl (Q_ 0 y_ rfl rfl rfl rfl rfl rfl (Q_ 3 aq_ rfl rfl rfl rfl rfl rfl (d_ (b_ rfl (g_ ?_)))))))))
 refine as_ (show List.Perm _ ((b4, .cells #[.int .i64 (v1 : Int), .int .i64 (v2 : Int), str s3, str s4, str [], .int .i64 0, .int .i64 0, .int .i64 0, .slice none (List.length ([] : List Int)) 0] 36 (0, 0)) :: ((b3, .cells #[.slice none 0 0, .bool false] 97 (0, 0)) :: ((b2, .cells #[.int .i64 0, .int .i64 0, str [], str [], str [], .int .i64 0, .int .i64 0, .int .i64 0, .slice none 0 0] 36 (0, 0)) :: ((b1, .cells #[.slice (Dst.ad e4) (List.length (Dst.r e4)) (Dst.cap e4), .bool y4] 97 (0, 0)) :: [])))) from .refl _) (c_ (a_ (M_ 3 by_ aq_ rfl rfl rfl) rfl (K_ (gR_ e4 y4 hke4) rfl x_ (fun v _ h => by exact ⟨h.1, trivial⟩) rfl fun ⟨⟨s5, e5, y5⟩, hge5, hke5⟩ => ?_)))
 dsimp only
 try dsimp only at hge5 hke5
 refine a_ (f_ rfl) rfl (a_ (V_ rfl rfl) rfl (a_ (V_ rfl rfl) rfl (a_ (h_ G_ rfl rfl rfl l_) rfl (a_ (h_ o_ rfl rfl rfl y_) rfl (Q_ 0 y_ rfl rfl rfl rfl rfl rfl (Q_ 3 aq_ rfl rfl rfl rfl rfl rfl (d_ (b_ rfl (g_ ?_)))))))))
 refine as_ (show List.Perm _ ((b4, .cells #[.int .i64 (v1 : Int), .int .i64 (v2 : Int), str s3, str s4, str s5, .int .i64 0, .int .i64 0, .int .i64 0, .slice none (List.length ([] : List Int)) 0] 36 (0, 0)) :: ((b3, .cells #[.slice none 0 0, .bool false] 97 (0, 0)) :: ((b2, .cells #[.int .i64 0, .int .i64 0, str [], str [], str [], .int .i64 0, .int .i64 0, .int .i64 0, .slice none 0 0] 36 (0, 0)) :: ((b1, .cells #[.slice (Dst.ad e5) (List.length (Dst.r e5)) (Dst.cap e5), .bool y5] 97 (0, 0)) :: [])))) from .refl _) (c_ (a_ (M_ 3 by_ aq_ rfl rfl rfl) rfl (K_ (fj_ e5 y5 hke5 8 (by decide)) rfl x_ (fun v _ h => by exact ⟨h.1, trivial⟩) rfl fun ⟨⟨v6, e6, y6⟩, hge6, hke6⟩ => ?_)))
 dsimp only
 try dsimp only at hge6 hke6
 refine a_ (f_ rfl) rfl (a_ (V_ rfl rfl) rfl (a_ (V_ rfl rfl) rfl (a_ (e_ rfl) rfl (Q_ 3 aq_ rfl rfl rfl rfl rfl rfl (d_ (b_ rfl (g_ (as_ (show List.Perm _ ((b4, .cells #[.int .i64 (v1 : Int), .int .i64 (v2 : Int), str s3, str s4, str s5, .int .i64 0, .int .i64 0, .int .i64 0, .slice none (List.length ([] : List Int)) 0] 36 (0, 0)) :: ((b3, .cells #[.slice none 0 0, .bool false] 97 (0, 0)) :: ((b2, .cells #[.int .i64 0, .int .i64 0, str [], str [], str [], .int .i64 0, .int .i64 0, .int .i64 0, .slice none 0 0] 36 (0, 0)) :: ((b1, .cells #[.slice (Dst.ad e6) (List.length (Dst.r e6)) (Dst.cap e6), .bool y6] 97 (0, 0)) :: [])))) from .refl _) (c_ ?_)))))))))
 refine a_ (f_ rfl) rfl (a_ (bZ_ aZ_ aT_ rfl (ju_ (by have := hge6.1; omega))) rfl (a_ (h_ G_ rfl rfl rfl l_) rfl (a_ (h_ o_ rfl rfl rfl q_) rfl (Q_ 0 q_ rfl rfl rfl rfl rfl rfl (d_ (b_ rfl (g_ (as_ (show List.Perm _ ((b4, .cells #[.int .i64 (v1 : Int), .int .i64 (v2 : Int), str s3, str s4, str s5, .int .i64 (cq_ v6), .int .i64 0, .int .i64 0, .slice none (List.length ([] : List Int)) 0] 36 (0, 0)) :: ((b3, .cells #[.slice none 0 0, .bool false] 97 (0, 0)) :: ((b2, .cells #[.int .i64 0, .int .i64 0, str [], str [], str [], .int .i64 0, .int .i64 0, .int .i64 0, .slice none 0 0] 36 (0, 0)) :: ((b1, .cells #[.slice (Dst.ad e6) (List.length (Dst.r e6)) (Dst.cap e6), .bool y6] 97 (0, 0)) :: [])))) from .refl _) (c_ ?_)))))))))
 refine a_ (M_ 3 by_ aq_ rfl rfl rfl) rfl (K_ (fj_ e6 y6 hke6 8 (by decide)) rfl x_ (fun v _ h => by exact ⟨h.1, trivial⟩) rfl fun ⟨⟨v7, e7, y7⟩, hge7, hke7⟩ => ?_)
 dsimp only
 try dsimp only at hge7 hke7
 refine a_ (f_ rfl) rfl (a_ (V_ rfl rfl) rfl (a_ (V_ rfl rfl) rfl (a_ (e_ rfl) rfl (Q_ 3 aq_ rfl rfl rfl rfl rfl rfl (d_ (b_ rfl (g_ (as_ (show List.Perm _ ((b4, .cells #[.int .i64 (v1 : Int), .int .i64 (v2 : Int), str s3, str s4, str s5, .int .i64 (cq_ v6), .int .i64 0, .int .i64 0, .slice none (List.length ([] : List Int)) 0] 36 (0, 0)) :: ((b3, .cells #[.slice none 0 0, .bool false] 97 (0, 0)) :: ((b2, .cells #[.int .i64 0, .int .i64 0, str [], str [], str [], .int .i64 0, .int .i64 0, .int .i64 0, .slice none 0 0] 36 (0, 0)) :: ((b1, .cells #[.slice (Dst.ad e7) (List.length (Dst.r e7)) (Dst.cap e7), .bool y7] 97 (0, 0)) :: [])))) from .refl _) (c_ ?_)))))))))
 refine a_ (f_ rfl) rfl (a_ (bZ_ aZ_ aT_ rfl (ju_ (by have := hge7.1; omega))) rfl (a_ (h_ G_ rfl rfl rfl l_) rfl (a_ (h_ o_ rfl rfl rfl q_) rfl (Q_ 0 q_ rfl rfl rfl rfl rfl rfl (d_ (b_ rfl (g_ (as_ (show List.Perm _ ((b4, .cells #[.int .i64 (v1 : Int), .int .i64 (v2 : Int), str s3, str s4, str s5, .int .i64 (cq_ v6), .int .i64 (cq_ v7), .int .i64 0, .slice none (List.length ([] : List Int)) 0] 36 (0, 0)) :: ((b3, .cells #[.slice none 0 0, .bool false] 97 (0, 0)) :: ((b2, .cells #[.int .i64 0, .int .i64 0, str [], str [], str [], .int .i64 0, .int .i64 0, .int .i64 0, .slice none 0 0] 36 (0, 0)) :: ((b1, .cells #[.slice (Dst.ad e7) (List.length (Dst.r e7)) (Dst.cap e7), .bool y7] 97 (0, 0)) :: [])))) from .refl _) (c_ ?_)))))))))
 refine a_ (M_ 3 by_ aq_ rfl rfl rfl) rfl (K_ (fj_ e7 y7 hke7 4 (by decide)) rfl x_ (fun v _ h => by exact ⟨h.1, trivial⟩) rfl fun ⟨⟨v8, e8, y8⟩, hge8, hke8⟩ => ?_)
 dsimp only
 try dsimp only at hge8 hke8
 refine a_ (f_ rfl) rfl (a_ (V_ rfl rfl) rfl (a_ (V_ rfl rfl) rfl (a_ (e_ rfl) rfl (Q_ 3 aq_ rfl rfl rfl rfl rfl rfl (d_ (b_ rfl (g_ (as_ (show List.Perm _ ((b4, .cells #[.int .i64 (v1 : Int), .int .i64 (v2 : Int), str s3, str s4, str s5, .int .i64 (cq_ v6), .int .i64 (cq_ v7), .int .i64 0, .slice none (List.length ([] : List Int)) 0] 36 (0, 0)) :: ((b3, .cells #[.slice none 0 0, .bool false] 97 (0, 0)) :: ((b2, .cells #[.int .i64 0, .int .i64 0, str [], str [], str [], .int .i64 0, .int .i64 0, .int .i64 0, .slice none 0 0] 36 (0, 0)) :: ((b1, .cells #[.slice (Dst.ad e8) (List.length (Dst.r e8)) (Dst.cap e8), .bool y8] 97 (0, 0)) :: [])))) from .refl _) (c_ ?_)))))))))
 refine a_ (f_ rfl) rfl (a_ (bZ_ aZ_ aT_ rfl (ej_ (by have := hge8.1; omega))) rfl (a_ (ag_ rfl rfl rfl (aS_ (by first | omega | (have := hge8.1; omega)) (by first | omega | (have := hge8.1; omega)))) rfl (a_ (h_ G_ rfl rfl rfl q_) rfl (Q_ 0 q_ rfl rfl rfl rfl rfl rfl (d_ (b_ rfl (g_ (as_ (show List.Perm _ ((b4, .cells #[.int .i64 (v1 : Int), .int .i64 (v2 : Int), str s3, str s4, str s5, .int .i64 (cq_ v6), .int .i64 (cq_ v7), .int .i64 ((v8 : Int) - 1), .slice none (List.length ([] : List Int)) 0] 36 (0, 0)) :: ((b3, .cells #[.slice none 0 0, .bool false] 97 (0, 0)) :: ((b2, .cells #[.int .i64 0, .int .i64 0, str [], str [], str [], .int .i64 0, .int .i64 0, .int .i64 0, .slice none 0 0] 36 (0, 0)) :: ((b1, .cells #[.slice (Dst.ad e8) (List.length (Dst.r e8)) (Dst.cap e8), .bool y8] 97 (0, 0)) :: [])))) from .refl _) (c_ ?_)))))))))
 refine a_ (h_ bK_ rfl rfl rfl aI_) rfl (a_ (n_ 3 bg_ rfl rfl rfl) rfl (a_ (f_ rfl) rfl ?_))
 refine aV_ 3 ((y8) || (decide (2147483647 < (v8 : Int)))) (fun r => [(1, zp_ b1 0), (2, zp_ b2 0), (3, zp_ b3 0), (4, zp_ b4 0), (5, .int .u64 (v8 : Int)), (80, .bool r)]) ?_ fun r1 hr1 => ?_
 ·
  cases y8
  ·
   refine i_ rfl rfl (a_ (f_ rfl) rfl (i_ rfl rfl (E_ (bp_ rfl rfl) rfl fun r2 hr2 => ?_)))
   refine a_ (t_ rfl rfl) rfl (d_ (p_ rfl ?_))
   exact met ⟨rfl, rfl, rfl, rfl, rfl, (s_ rfl (jof rfl hr2)), trivial⟩
  ·
   refine k_ rfl rfl rfl rfl (k_ rfl rfl rfl rfl (a_ (v_ rfl rfl) rfl (d_ (p_ rfl ?_))))
   exact met ⟨rfl, rfl, rfl, rfl, rfl, (s_ rfl (jot rfl)), trivial⟩
 ·
  refine a_ (h_ bK_ rfl rfl rfl aI_) rfl (Q_ 3 aI_ rfl rfl rfl rfl rfl rfl (d_ (b_ rfl (g_ (as_ (show List.Perm _ ((b4, .cells #[.int .i64 (v1 : Int), .int .i64 (v2 : Int), str s3, str s4, str s5, .int .i64 (cq_ v6), .int .i64 (cq_ v7), .int .i64 ((v8 : Int) - 1), .slice none (List.length ([] : List Int)) 0] 36 (0, 0)) :: ((b3, .cells #[.slice none 0 0, .bool false] 97 (0, 0)) :: ((b2, .cells #[.int .i64 0, .int .i64 0, str [], str [], str [], .int .i64 0, .int .i64 0, .int .i64 0, .slice none 0 0] 36 (0, 0)) :: ((b1, .cells #[.slice (Dst.ad e8) (List.length (Dst.r e8)) (Dst.cap e8), .bool r1] 97 (0, 0)) :: [])))) from .refl _) (c_ (a_ (M_ 3 by_ aq_ rfl rfl rfl) rfl (K_ (fj_ e8 r1 hke8 1 (by decide)) rfl x_ (fun v _ h => by exact ⟨h.1, trivial⟩) rfl fun ⟨⟨v9, e9, y9⟩, hge9, hke9⟩ => ?_))))))))
  dsimp only
  try dsimp only at hge9 hke9
  refine a_ (f_ rfl) rfl (a_ (V_ rfl rfl) rfl (a_ (V_ rfl rfl) rfl (Z_ cU_ rfl fun b5 => ?_)))
  refine a_ (e_ rfl) rfl (Q_ 0 aq_ rfl rfl rfl rfl rfl rfl (d_ (b_ rfl (g_ (g_ (c_ (a_ (e_ rfl) rfl (d_ (b_ rfl ?_)))))))))
  refine ae_ ?_
  refine bt_ (ι := {y : Nat × List Int × Dst × Bool × Value × Hp // y.1 ≤ v9 ∧ oM_ v9 e9 y9 y.1 y.2.1 y.2.2.1 y.2.2.2.1 ∧ Dst.ok y.2.2.1 ∧ List.length y.2.1 = y.1 ∧ bi_ 3 1 y.2.2.2.2.1 (List.length y.2.1) (List.flatMap dg_ y.2.1) y.2.2.2.2.2}) (fun y => [(2, zp_ b2 0), (3, zp_ b3 0), (4, zp_ b4 0), (6, .int .u64 (v9 : Int)), (7, zp_ b5 0), (8, .int .i64 (y.1.1 : Int))]) (fun y => ((b2, .cells #[.int .i64 0, .int .i64 0, str [], str [], str [], .int .i64 0, .int .i64 0, .int .i64 0, .slice none 0 0] 36 (0, 0)) :: ((b3, .cells #[.slice none 0 0, .bool false] 97 (0, 0)) :: ((b4, .cells #[.int .i64 (v1 : Int), .int .i64 (v2 : Int), str s3, str s4, str s5, .int .i64 (cq_ v6), .int .i64 (cq_ v7), .int .i64 ((v8 : Int) - 1), y.1.2.2.2.2.1] 36 (0, 0)) :: ((b5, .cells #[.slice (Dst.ad y.1.2.2.1) (List.length (Dst.r y.1.2.2.1)) (Dst.cap y.1.2.2.1), .bool y.1.2.2.2.1] 97 (0, 0)) :: y.1.2.2.2.2.2))))) (fun y => [aY_ (Dst.ad y.1.2.2.1) (List.flatMap u8C (Dst.r y.1.2.2.1))]) (fun y => v9 - y.1.1) ⟨((0 : Nat), ([] : List Int), e9, y9, (.slice none 0 0), []), Nat.zero_le _, nc_ v9 e9 y9, hke9, rfl, (bi_.nil _ _)⟩ ⟨rfl, rfl, rfl, rfl, rfl, rfl, trivial⟩ (N_ (F_ (F_ (F_ C_))) (N_ (F_ (F_ C_)) (N_ (F_ C_) C_))) (fun v _ h => by exact ⟨h.1, trivial⟩) ?_
  rintro ⟨⟨i, l, e, y, sv_F, H_F⟩, hi, hI, hke, hll, hr_F⟩
  dsimp only at hi hI hke hll hr_F ⊢
  have hv9 := hge9.1
  have hyy : y = y := rfl
  refine g_ (g_ (c_ (a_ (f_ rfl) rfl (a_ (f_ rfl) rfl (a_ (bZ_ aZ_ aT_ rfl (ej_ (by have := hge9.1; omega))) rfl (E_ (au_ rfl rfl) rfl fun r3 hr3 => ?_))))))
  refine a_ (f_ rfl) rfl ?_
  refine aV_ 4 ((decide ((i : Int) < (v9 : Int))) && (!(y))) (fun r => [(2, zp_ b2 0), (3, zp_ b3 0), (4, zp_ b4 0), (6, .int .u64 (v9 : Int)), (7, zp_ b5 0), (8, .int .i64 (i : Int)), (95, .bool r)]) ?_ fun r4 hr4 => ?_
  ·
   cases r3
   ·
    have qr4 := hr3
    replace hr3 := of_decide_eq_false hr3
    refine k_ rfl rfl rfl rfl (k_ rfl rfl rfl rfl (k_ rfl rfl rfl rfl (a_ (t_ rfl rfl) rfl (d_ (p_ rfl ?_)))))
    exact met ⟨rfl, rfl, rfl, rfl, rfl, rfl, (s_ rfl (jaf qr4)), trivial⟩
   ·
    have qr4 := hr3
    replace hr3 := of_decide_eq_true hr3
    refine i_ rfl rfl (a_ (h_ bK_ rfl rfl rfl aI_) rfl (i_ rfl rfl (a_ (n_ 3 bg_ rfl rfl rfl) rfl (i_ rfl rfl (a_ (bu_ rfl) rfl (a_ (v_ rfl rfl) rfl (d_ (p_ rfl ?_))))))))
    exact met ⟨rfl, rfl, rfl, rfl, rfl, rfl, (s_ rfl (jat qr4 (jn hyy))), trivial⟩
  ·
   refine d_ (b_ rfl ?_)
   cases r4
   ·
    have hix : y = true ∨ v9 ≤ i := by rcases Nat.lt_or_ge i v9 with z | z; left; cases hy9 : y; (rw [hy9, decide_eq_true (by omega)] at hr4; cases hr4); rfl; exact .inr z
    refine A_ rfl (bj_ rfl (b_ rfl (g_ (as_ (show List.Perm _ ((b2, .cells #[.int .i64 0, .int .i64 0, str [], str [], str [], .int .i64 0, .int .i64 0, .int .i64 0, .slice none 0 0] 36 (0, 0)) :: ((b3, .cells #[.slice none 0 0, .bool false] 97 (0, 0)) :: ((b4, .cells #[.int .i64 (v1 : Int), .int .i64 (v2 : Int), str s3, str s4, str s5, .int .i64 (cq_ v6), .int .i64 (cq_ v7), .int .i64 ((v8 : Int) - 1), sv_F] 36 (0, 0)) :: ((b5, .cells #[.slice (Dst.ad e) (List.length (Dst.r e)) (Dst.cap e), .bool y] 97 (0, 0)) :: H_F)))) from .refl _) (cf_ hr_F (F_ (F_ (F_ aK_))) fun fad fcap hfad hcfad hmfad hzfad => ?_)))))
    subst hfad
    refine cn_ ((b4, .cells #[.int .i64 (v1 : Int), .int .i64 (v2 : Int), str s3, str s4, str s5, .int .i64 (cq_ v6), .int .i64 (cq_ v7), .int .i64 ((v8 : Int) - 1), .slice fad (List.length l) fcap] 36 (0, 0)) :: ((b5, .cells #[.slice (Dst.ad e) (List.length (Dst.r e)) (Dst.cap e), .bool y] 97 (0, 0)) :: [])) (by kernel_rfl) ?_
    refine P_ 2 [0, 1] (by kernel_rfl) (fun _ a b => ⟨a.tail.tail, b⟩) (m_ rfl (M_ 0 bY_ ak_ rfl rfl rfl) rfl (m_ rfl (M_ 1 by_ aq_ rfl rfl rfl) rfl (O_ (L_ 2 rfl (by kernel_rfl) (Q_ 0 ak_ rfl rfl rfl rfl rfl rfl (d_ (p_ rfl (D_ (fun _ a b => ⟨a.tail.tail, b⟩) (L_ 3 rfl (by kernel_rfl) ?_)))))))))
    refine Q_ 1 aq_ rfl rfl rfl rfl rfl rfl (d_ (p_ rfl (D_ (fun _ a b => ⟨a.tail.tail, b⟩) (T_ (by kernel_rfl) (b_ rfl (u_ ?_))))))
    exact et_ ⟨((Stp.mk (v1 : Int) (Fc.mk (v2 : Int) s3 s4 s5 (cq_ v6) (cq_ v7)) ((v8 : Int) - 1) fad fcap l), e, y), nF_ hge1 hge2 hge3 hge4 hge5 hge6 hge7 hge8 (by rw [hr1]; exact hge9) hI hix, hke⟩ (fun aa v h1 h2 => res_cc (us := Stp.cells (Stp.mk (v1 : Int) (Fc.mk (v2 : Int) s3 s4 s5 (cq_ v6) (cq_ v7)) ((v8 : Int) - 1) fad fcap l)) (vs := [.slice (Dst.ad e) (List.length (Dst.r e)) (Dst.cap e), .bool y]) 0 1 Tryz.results46 bY_ ak_ rfl by_ aq_ rfl rfl rfl rfl rfl aa v h1 h2) x_ (fun v _ h => by exact ⟨h.1, h.2.1, trivial⟩)
   ·
    simp only [Bool.and_eq_true, decide_eq_true_eq, Bool.not_eq_true'] at hr4
    have hlt : i < v9 := by have := hr4.1; omega
    have hyf : y = false := hr4.2
    refine w_ rfl (J_ (b_ rfl (g_ (ae_ (g_ (c_ (a_ (M_ 3 by_ aq_ rfl rfl rfl) rfl (K_ (fj_ e y hke 4 (by decide)) rfl x_ (fun v _ h => by exact ⟨h.1, trivial⟩) rfl fun ⟨⟨w, e10, y10⟩, hge10, hke10⟩ => ?_))))))))
    dsimp only
    try dsimp only at hge10 hke10
    refine a_ (f_ rfl) rfl (a_ (V_ rfl rfl) rfl (a_ (V_ rfl rfl) rfl (a_ (e_ rfl) rfl (Q_ 3 aq_ rfl rfl rfl rfl rfl rfl (d_ (b_ rfl (g_ (as_ (show List.Perm _ ((b2, .cells #[.int .i64 0, .int .i64 0, str [], str [], str [], .int .i64 0, .int .i64 0, .int .i64 0, .slice none 0 0] 36 (0, 0)) :: ((b3, .cells #[.slice none 0 0, .bool false] 97 (0, 0)) :: ((b4, .cells #[.int .i64 (v1 : Int), .int .i64 (v2 : Int), str s3, str s4, str s5, .int .i64 (cq_ v6), .int .i64 (cq_ v7), .int .i64 ((v8 : Int) - 1), sv_F] 36 (0, 0)) :: ((b5, .cells #[.slice (Dst.ad e10) (List.length (Dst.r e10)) (Dst.cap e10), .bool y10] 97 (0, 0)) :: H_F)))) from .refl _) (c_ ?_)))))))))
    refine a_ (h_ G_ rfl rfl rfl bc_) rfl (a_ (n_ 2 bz_ rfl rfl rfl) rfl (a_ (f_ rfl) rfl (a_ (bZ_ aZ_ aT_ rfl (ej_ (by have := hge10.1; omega))) rfl (be_ aj_ q_ cO_ rfl rfl rfl rfl rfl rfl fun b6 => ?_))))
    refine bC_ (news := List.flatMap dg_ [(w : Int)]) hy_ hr_F rfl rfl (F_ (F_ (F_ (F_ aK_)))) rfl (ce_ 0 rfl) (fun u hu => bH_ gz_ hu) (by simp only [maxLen]; omega) (by omega) rfl fun sv1 Hr1 hr1 => ?_
    refine as_ List.perm_append_comm ?_
    have hq1 : bi_ 3 1 sv1 (List.length (l ++ [(w : Int)])) (List.flatMap dg_ (l ++ [(w : Int)])) Hr1 := by rw [List.length_append, List.flatMap_append]; exact hr1
    refine a_ (h_ G_ rfl rfl rfl bc_) rfl (bQ_ 3 hq1 bc_ rfl rfl rfl rfl (d_ (b_ rfl (as_ (show List.Perm _ ((b6, .cells #[.int .i64 (w : Int)] 3 (0, 0)) :: ((b2, .cells #[.int .i64 0, .int .i64 0, str [], str [], str [], .int .i64 0, .int .i64 0, .int .i64 0, .slice none 0 0] 36 (0, 0)) :: ((b3, .cells #[.slice none 0 0, .bool false] 97 (0, 0)) :: ((b4, .cells #[.int .i64 (v1 : Int), .int .i64 (v2 : Int), str s3, str s4, str s5, .int .i64 (cq_ v6), .int .i64 (cq_ v7), .int .i64 ((v8 : Int) - 1), sv1] 36 (0, 0)) :: ((b5, .cells #[.slice (Dst.ad e10) (List.length (Dst.r e10)) (Dst.cap e10), .bool y10] 97 (0, 0)) :: Hr1))))) from .refl _) (c_ (a_ (h_ bK_ rfl rfl rfl aI_) rfl (a_ (n_ 4 bg_ rfl rfl rfl) rfl (a_ (f_ rfl) rfl ?_))))))))
    refine aV_ 3 ((y10) || (decide (2147483647 < (w : Int)))) (fun r => [(2, zp_ b2 0), (3, zp_ b3 0), (4, zp_ b4 0), (6, .int .u64 (v9 : Int)), (7, zp_ b5 0), (8, .int .i64 (i : Int)), (115, .bool r)]) ?_ fun r5 hr5 => ?_
    ·
     cases y10
     ·
      refine i_ rfl rfl (a_ (f_ rfl) rfl (i_ rfl rfl (E_ (bp_ rfl rfl) rfl fun r6 hr6 => ?_)))
      refine a_ (t_ rfl rfl) rfl (d_ (p_ rfl ?_))
      exact met ⟨rfl, rfl, rfl, rfl, rfl, rfl, (s_ rfl (jof rfl hr6)), trivial⟩
     ·
      refine k_ rfl rfl rfl rfl (k_ rfl rfl rfl rfl (a_ (v_ rfl rfl) rfl (d_ (p_ rfl ?_))))
      exact met ⟨rfl, rfl, rfl, rfl, rfl, rfl, (s_ rfl (jot rfl)), trivial⟩
    ·
     refine a_ (h_ bK_ rfl rfl rfl aI_) rfl (Q_ 4 aI_ rfl rfl rfl rfl rfl rfl (d_ (b_ rfl (c_ (a_ (f_ rfl) rfl (a_ (ag_ rfl rfl rfl (aS_ (by first | omega | (have := hge8.1; omega)) (by first | omega | (have := hge8.1; omega)))) rfl (a_ (e_ rfl) rfl (d_ (p_ rfl ?_)))))))))
     exact aU_ ⟨(i + 1, (l ++ [(w : Int)]), e10, r5, sv1, Hr1), (by omega), (by rw [← hr5]; exact nd_ hI hlt hyf hge10), hke10, (by rw [List.length_append, hll]; rfl), hq1⟩ (by dsimp only; omega) ⟨rfl, rfl, rfl, rfl, rfl, rfl, trivial⟩ (N_ (F_ C_) (N_ (F_ C_) (N_ (F_ C_) (N_ (F_ C_) aK_)))) (fun v _ h => by exact ⟨h.1, trivial⟩)
set_option maxHeartbeats 1000000 in
theorem iO_ (r : Str) (ad : Option Addr) (cap : Nat) (hok : Dst.ok (Dst.mk ad cap r)) : Tri Tryz.prog 19 #[.slice ad (List.length r) cap] [] [aY_ ad (List.flatMap u8C r)] (fun y : {y : (List Stp × Option Addr × Nat) × Int // iw_ r y.1.1 y.2 ∧ y.1.1.length ≤ y.1.2.2 ∧ y.1.2.2 ≤ maxLen ∧ (y.1.2.1 = none → y.1.2.2 = 0)} => .tuple #[.agg #[.slice y.1.1.2.1 (List.length y.1.1.1) y.1.1.2.2], .int .i64 y.1.2]) (fun _ => []) (fun y => [aY_ y.1.1.2.1 (List.flatMap Stp.cells y.1.1.1), cP_ y.1.1.1]) := by
 refine S_ Tryz.func19 rfl rfl Tryz.ntmps19 rfl fun v0 => ?_
 refine g_ (c_ (Z_ ca_ rfl fun b1 => ?_))
 refine a_ (e_ rfl) rfl (d_ (b_ rfl (g_ (c_ (a_ (f_ rfl) rfl (a_ (ax_ jy_ rfl rfl) rfl (K_ (fj_ (Dst.mk ad cap r) false hok 4 (by decide)) rfl x_ (fun v _ h => by exact ⟨h.1, trivial⟩) rfl fun ⟨⟨n, e1, y1⟩, hge1, hke1⟩ => ?_)))))))
 dsimp only
 try dsimp only at hge1 hke1
 have hn4 := hge1.1
 refine a_ (f_ rfl) rfl (a_ (V_ rfl rfl) rfl (a_ (V_ rfl rfl) rfl (Z_ cU_ rfl fun b2 => ?_)))
 refine a_ (e_ rfl) rfl (Q_ 0 aq_ rfl rfl rfl rfl rfl rfl (d_ (b_ rfl (g_ (as_ (show List.Perm _ ((b2, .cells #[.slice (Dst.ad e1) (List.length (Dst.r e1)) (Dst.cap e1), .bool y1] 97 (0, 0)) :: ((b1, .cells #[.slice none 0 0] 27 (0, 0)) :: [])) from .refl _) (c_ (a_ (ax_ hH_ rfl rfl) rfl (Z_ ca_ rfl fun b3 => ?_))))))))
 refine Q_ 0 aO_ rfl rfl rfl rfl rfl rfl (d_ (b_ rfl (g_ (g_ (as_ (show List.Perm _ ((b3, .cells #[.slice none 0 0] 27 (0, 0)) :: ((b2, .cells #[.slice (Dst.ad e1) (List.length (Dst.r e1)) (Dst.cap e1), .bool y1] 97 (0, 0)) :: ((b1, .cells #[.slice none 0 0] 27 (0, 0)) :: []))) from .refl _) (c_ (a_ (e_ rfl) rfl (d_ (b_ rfl ?_)))))))))
 refine ae_ ?_
 refine bt_ (ι := {y : Nat × List Stp × Dst × Bool × Value × Hp // (y.1 ≤ n ∧ y.1 ≤ 65537) ∧ np_ n e1 y1 y.1 (List.map Stp.ds y.2.1) y.2.2.1 y.2.2.2.1 ∧ Dst.ok y.2.2.1 ∧ List.length y.2.1 = y.1 ∧ bi_ 36 9 y.2.2.2.2.1 (List.length y.2.1) (List.flatMap Stp.cells y.2.1) y.2.2.2.2.2}) (fun y => [(2, zp_ b1 0), (3, .int .i64 0), (4, .int .u64 (n : Int)), (5, zp_ b2 0), (6, zp_ b3 0), (7, .int .u64 (y.1.1 : Int))]) (fun y => ((b1, .cells #[.slice none 0 0] 27 (0, 0)) :: ((b2, .cells #[.slice (Dst.ad y.1.2.2.1) (List.length (Dst.r y.1.2.2.1)) (Dst.cap y.1.2.2.1), .bool y.1.2.2.2.1] 97 (0, 0)) :: ((b3, .cells #[y.1.2.2.2.2.1] 27 (0, 0)) :: y.1.2.2.2.2.2)))) (fun y => [aY_ (Dst.ad y.1.2.2.1) (List.flatMap u8C (Dst.r y.1.2.2.1)), cP_ y.1.2.1]) (fun y => 65537 - y.1.1) ⟨((0 : Nat), ([] : List Stp), e1, y1, (.slice none 0 0), []), ⟨Nat.zero_le _, Nat.zero_le _⟩, mF_ n e1 y1, hke1, rfl, (bi_.nil _ _)⟩ ⟨rfl, rfl, rfl, rfl, rfl, rfl, trivial⟩ (N_ (F_ (F_ C_)) (N_ (F_ C_) C_)) (fun v _ h => by exact ⟨h.1, eo_, trivial⟩) ?_
 rintro ⟨⟨i, l, e, y, sv_S, H_S⟩, hi, hS, hke, hll, hr_S⟩
 dsimp only at hi hS hke hll hr_S ⊢
 have hyy : y = y := rfl
 refine g_ (g_ (c_ (a_ (f_ rfl) rfl (a_ (f_ rfl) rfl (E_ (au_ rfl rfl) rfl fun r1 hr1 => ?_)))))
 refine a_ (f_ rfl) rfl ?_
 refine aV_ 4 ((decide ((i : Int) < (n : Int))) && (!(y))) (fun r => [(2, zp_ b1 0), (3, .int .i64 0), (4, .int .u64 (n : Int)), (5, zp_ b2 0), (6, zp_ b3 0), (7, .int .u64 (i : Int)), (23, .bool r)]) ?_ fun r2 hr2 => ?_
 ·
  cases r1
  ·
   have qr2 := hr1
   replace hr1 := of_decide_eq_false hr1
   refine k_ rfl rfl rfl rfl (k_ rfl rfl rfl rfl (k_ rfl rfl rfl rfl (a_ (t_ rfl rfl) rfl (d_ (p_ rfl ?_)))))
   exact met ⟨rfl, rfl, rfl, rfl, rfl, rfl, (s_ rfl (jaf qr2)), trivial⟩
  ·
   have qr2 := hr1
   replace hr1 := of_decide_eq_true hr1
   refine i_ rfl rfl (a_ (h_ bK_ rfl rfl rfl aI_) rfl (i_ rfl rfl (a_ (n_ 1 bg_ rfl rfl rfl) rfl (i_ rfl rfl (a_ (bu_ rfl) rfl (a_ (v_ rfl rfl) rfl (d_ (p_ rfl ?_))))))))
   exact met ⟨rfl, rfl, rfl, rfl, rfl, rfl, (s_ rfl (jat qr2 (jn hyy))), trivial⟩
 ·
  refine a_ (f_ rfl) rfl ?_
  refine aV_ 3 ((((decide ((i : Int) < (n : Int))) && (!(y)))) && (decide ((i : Int) ≤ 65536))) (fun r => [(2, zp_ b1 0), (3, .int .i64 0), (4, .int .u64 (n : Int)), (5, zp_ b2 0), (6, zp_ b3 0), (7, .int .u64 (i : Int)), (27, .bool r)]) ?_ fun r3 hr3 => ?_
  ·
   cases r2
   ·
    have qr3 := hr2
    refine k_ rfl rfl rfl rfl (k_ rfl rfl rfl rfl (a_ (t_ rfl rfl) rfl (d_ (p_ rfl ?_))))
    exact met ⟨rfl, rfl, rfl, rfl, rfl, rfl, (s_ rfl (jaf qr3)), trivial⟩
   ·
    have qr3 := hr2
    refine i_ rfl rfl (a_ (f_ rfl) rfl (i_ rfl rfl (E_ (cb_ rfl rfl) rfl fun r4 hr4 => ?_)))
    refine a_ (v_ rfl rfl) rfl (d_ (p_ rfl ?_))
    exact met ⟨rfl, rfl, rfl, rfl, rfl, rfl, (s_ rfl (jat qr3 hr4)), trivial⟩
  ·
   refine d_ (b_ rfl ?_)
   cases r3
   ·
    have hix : y = true ∨ n ≤ i ∨ 65536 < n := by rcases Nat.lt_or_ge i n with z | z; cases hy9 : y; (right; right; rcases Nat.lt_or_ge 65536 i with w | w; omega; (rw [hy9, decide_eq_true (by omega), decide_eq_true (by omega)] at hr3; cases hr3)); exact .inl rfl; exact .inr (.inl z)
    refine A_ rfl (bj_ rfl (b_ rfl (g_ (g_ (as_ (show List.Perm _ ((b1, .cells #[.slice none 0 0] 27 (0, 0)) :: ((b2, .cells #[.slice (Dst.ad e) (List.length (Dst.r e)) (Dst.cap e), .bool y] 97 (0, 0)) :: ((b3, .cells #[sv_S] 27 (0, 0)) :: H_S))) from .refl _) (c_ (a_ (h_ bK_ rfl rfl rfl aI_) rfl (a_ (n_ 1 bg_ rfl rfl rfl) rfl (a_ (f_ rfl) rfl ?_)))))))))
    refine aV_ 5 ((y) || (decide (0 < (List.length (Dst.r e) : Int)))) (fun r => [(2, zp_ b1 0), (3, .int .i64 0), (4, .int .u64 (n : Int)), (5, zp_ b2 0), (6, zp_ b3 0), (7, .int .u64 (i : Int)), (48, .bool r)]) ?_ fun r5 hr5 => ?_
    ·
     cases y
     ·
      refine i_ rfl rfl (a_ (h_ bK_ rfl rfl rfl ct_) rfl (i_ rfl rfl (a_ (n_ 1 dX_ rfl rfl rfl) rfl (i_ rfl rfl (a_ (aA_ aE_ rfl) rfl (i_ rfl rfl (E_ (bp_ rfl rfl) rfl fun r6 hr6 => ?_)))))))
      refine a_ (t_ rfl rfl) rfl (d_ (p_ rfl ?_))
      exact met ⟨rfl, rfl, rfl, rfl, rfl, rfl, (s_ rfl (jof rfl hr6)), trivial⟩
     ·
      refine k_ rfl rfl rfl rfl (k_ rfl rfl rfl rfl (k_ rfl rfl rfl rfl (k_ rfl rfl rfl rfl (a_ (v_ rfl rfl) rfl (d_ (p_ rfl ?_))))))
      exact met ⟨rfl, rfl, rfl, rfl, rfl, rfl, (s_ rfl (jot rfl)), trivial⟩
    ·
     refine a_ (f_ rfl) rfl ?_
     refine aV_ 3 ((((y) || (decide (0 < (List.length (Dst.r e) : Int))))) || (decide (65536 < (n : Int)))) (fun r => [(2, zp_ b1 0), (3, .int .i64 0), (4, .int .u64 (n : Int)), (5, zp_ b2 0), (6, zp_ b3 0), (7, .int .u64 (i : Int)), (52, .bool r)]) ?_ fun r7 hr7 => ?_
     ·
      cases r5
      ·
       have qr7 := hr5
       refine i_ rfl rfl (a_ (f_ rfl) rfl (i_ rfl rfl (E_ (bp_ rfl rfl) rfl fun r8 hr8 => ?_)))
       refine a_ (t_ rfl rfl) rfl (d_ (p_ rfl ?_))
       exact met ⟨rfl, rfl, rfl, rfl, rfl, rfl, (s_ rfl (jof qr7 hr8)), trivial⟩
      ·
       have qr7 := hr5
       refine k_ rfl rfl rfl rfl (k_ rfl rfl rfl rfl (a_ (v_ rfl rfl) rfl (d_ (p_ rfl ?_))))
       exact met ⟨rfl, rfl, rfl, rfl, rfl, rfl, (s_ rfl (jot qr7)), trivial⟩
     ·
      refine d_ (b_ rfl ?_)
      cases r7
      ·
       refine A_ rfl (J_ (b_ rfl (g_ (cf_ hr_S (F_ (F_ aK_)) fun sad scap hsad hcsad hmsad hzsad => ?_))))
       subst hsad
       refine c_ (a_ (M_ 2 bN_ aO_ rfl rfl rfl) rfl (Q_ 0 aO_ rfl rfl rfl rfl rfl rfl (a_ (e_ rfl) rfl (d_ (b_ rfl (u_ ?_))))))
       simp only [Bool.or_eq_false_iff, decide_eq_false_iff_not] at hr7
       obtain ⟨⟨hyf, hle⟩, hn65⟩ := hr7
       have he0 : e.r = [] := List.eq_nil_of_length_eq_zero (by omega)
       have hni : n ≤ i := by rcases hix with z | z | z; rw [hyf] at z; cases z; exact z; omega
       have hgood : hp_ r = some (List.map Stp.ds l) := oC_ hge1 (by rw [hyf] at hS; exact hS) hni he0 (by omega)
       exact et_ ⟨((l, sad, scap), 0), .inl ⟨hgood, rfl⟩, hcsad, hmsad, hzsad⟩ (fun aa v h1 h2 => nR_ (us := [.slice sad (List.length l) scap]) 0 Tryz.results19 bN_ aO_ rfl rfl rfl rfl aa v h1 h2) x_ (fun v _ h => by exact ⟨h.1, h.2.2.1, trivial⟩)
      ·
       refine w_ rfl (g_ (as_ (show List.Perm _ ((b1, .cells #[.slice none 0 0] 27 (0, 0)) :: ((b2, .cells #[.slice (Dst.ad e) (List.length (Dst.r e)) (Dst.cap e), .bool y] 97 (0, 0)) :: ((b3, .cells #[sv_S] 27 (0, 0)) :: H_S))) from .refl _) (c_ (a_ (ax_ hH_ rfl rfl) rfl (Q_ 0 aO_ rfl rfl rfl rfl rfl rfl (a_ (e_ rfl) rfl (d_ (b_ rfl (u_ ?_)))))))))
       have hbad : hp_ r = none := pS_ hge1 hS hix (by simp only [Bool.or_eq_true, decide_eq_true_eq] at hr7; rcases hr7 with (z | z) | z; exact .inl z; right; left; intro q; rw [q] at z; simp at z; right; right; omega)
       exact et_ ⟨(([], none, 0), 120), .inr ⟨hbad, rfl, rfl⟩, Nat.le_refl _, Nat.zero_le _, fun _ => rfl⟩ (fun aa v h1 h2 => nR_ (us := [.slice none 0 0]) 0 Tryz.results19 bN_ aO_ rfl rfl rfl rfl aa v h1 h2) x_ (fun v _ h => by exact ⟨.inl rfl, eo_, trivial⟩)
   ·
    simp only [Bool.and_eq_true, decide_eq_true_eq, Bool.not_eq_true'] at hr3
    have hlt : i < n := by have := hr3.1.1; omega
    have hl65 : i ≤ 65536 := by have := hr3.2; omega
    have hyf : y = false := hr3.1.2
    refine w_ rfl (J_ (b_ rfl (g_ (ae_ (g_ (as_ (show List.Perm _ ((b1, .cells #[.slice none 0 0] 27 (0, 0)) :: ((b2, .cells #[.slice (Dst.ad e) (List.length (Dst.r e)) (Dst.cap e), .bool y] 97 (0, 0)) :: ((b3, .cells #[sv_S] 27 (0, 0)) :: H_S))) from .refl _) (c_ (Z_ bb_ rfl fun b4 => ?_))))))))
    refine d_ (b_ rfl (g_ (as_ (show List.Perm _ ((b4, .cells #[.int .i64 0, .int .i64 0, str [], str [], str [], .int .i64 0, .int .i64 0, .int .i64 0, .slice none 0 0] 36 (0, 0)) :: ((b1, .cells #[.slice none 0 0] 27 (0, 0)) :: ((b2, .cells #[.slice (Dst.ad e) (List.length (Dst.r e)) (Dst.cap e), .bool y] 97 (0, 0)) :: ((b3, .cells #[sv_S] 27 (0, 0)) :: H_S)))) from .refl _) (c_ (a_ (M_ 2 by_ aq_ rfl rfl rfl) rfl (K_ (pg_ e y hke) rfl x_ (fun v _ h => by exact ⟨h.1, trivial⟩) rfl fun ⟨⟨sp, e2, y2⟩, hst, hke2⟩ => ?_))))))
    dsimp only
    try dsimp only at hst hke2
    refine a_ (f_ rfl) rfl (a_ (V_ rfl rfl) rfl (a_ (V_ rfl rfl) rfl (Q_ 0 ak_ rfl rfl rfl rfl rfl rfl (Q_ 2 aq_ rfl rfl rfl rfl rfl rfl (d_ (b_ rfl (as_ (show List.Perm _ ((b4, .cells #[.int .i64 (Stp.rule sp), .int .i64 (Fc.kind (Stp.fact sp)), str (Fc.a (Stp.fact sp)), str (Fc.b (Stp.fact sp)), str (Fc.r (Stp.fact sp)), .int .i64 (Fc.lo (Stp.fact sp)), .int .i64 (Fc.hi (Stp.fact sp)), .int .i64 (Stp.piece sp), .slice (Stp.ad sp) (List.length (Stp.frm sp)) (Stp.cap sp)] 36 (0, 0)) :: ((b1, .cells #[.slice none 0 0] 27 (0, 0)) :: ((b2, .cells #[.slice (Dst.ad e2) (List.length (Dst.r e2)) (Dst.cap e2), .bool y2] 97 (0, 0)) :: ((b3, .cells #[sv_S] 27 (0, 0)) :: H_S)))) from .refl _) (c_ (a_ (h_ ab_ rfl rfl rfl al_) rfl ?_)))))))))
    refine a_ (n_ 3 bd_ rfl rfl rfl) rfl (a_ (M_ 0 bY_ ak_ rfl rfl rfl) rfl (be_ af_ ak_ bb_ rfl rfl rfl rfl rfl rfl fun b5 => ?_))
    refine bC_ (news := List.flatMap Stp.cells [sp]) dM_ hr_S rfl rfl (F_ (F_ (F_ (F_ aK_)))) rfl (ce_ 0 rfl) (fun u hu => bH_ Stp.cells_one hu) (by simp only [maxLen]; omega) (by omega) rfl fun sv1 Hr1 hr1 => ?_
    refine as_ List.perm_append_comm ?_
    have hq1 : bi_ 36 9 sv1 (List.length (l ++ [sp])) (List.flatMap Stp.cells (l ++ [sp])) Hr1 := by rw [List.length_append, List.flatMap_append]; exact hr1
    refine a_ (h_ ab_ rfl rfl rfl al_) rfl (bQ_ 4 hq1 al_ rfl rfl rfl rfl (d_ (b_ rfl (c_ (a_ (f_ rfl) rfl (a_ (ag_ rfl rfl rfl (ki_ (by omega) (by omega))) rfl (a_ (e_ rfl) rfl (d_ (p_ rfl ?_)))))))))
    exact aU_ ⟨(i + 1, (l ++ [sp]), e2, y2, sv1, Hr1), (by omega), (by rw [List.map_append]; exact mG_ hS hlt hyf hst), hke2, (by rw [List.length_append, hll]; rfl), hq1⟩ (by dsimp only; omega) ⟨rfl, rfl, rfl, rfl, rfl, rfl, trivial⟩ (N_ (F_ (F_ C_)) (N_ (F_ (F_ C_)) (N_ (F_ (F_ C_)) (F_ aK_)))) (fun v _ h => by exact ⟨h.2.1, cH_ h.2.2.2.1 h.1, trivial⟩)
end Go.Proofs.YtaffcjgphlhppaaGreatDoor
namespace Go.Proofs.YtaffcjgphlhppaaGreatDoor
open Go Go.Sx Go.Proofs
attribute [local irreducible] Code.wp wpList wpAnyH
open Go.Vs
theorem pf_ (l : List Stp) (ad : Option Addr) (cap : Nat) (L : Str) (e : Int) (hE : dm_ l = (L, e)) (hll : l.length ≤ 10000000) (hfr : ∀ s ∈ l, s.frm.length ≤ 1000000) (hsf : ∀ s ∈ l, s.fact.sml) : Tri Tryz.prog 16 #[.agg #[.slice ad l.length cap]] [] [aY_ ad (List.flatMap Stp.cells l), cP_ l] (fun y : {y : Value × Hp // bi_ 5 1 y.1 (List.length L) (List.flatMap u8C L) y.2} => .tuple #[y.1.1, .int .i64 e]) (fun y => y.1.2) (fun _ => []) := by
  have h := mN_ l ad cap hll hfr hsf
  rw [hE] at h
  exact h
theorem jm_ {r : Str} {Y Z : List Stp} {e f : Int} (h1 : iw_ r Y e) (h2 : iw_ r Z f) : e = f ∧ SameS Y Z := by
  rcases h1 with ⟨h1, rfl⟩ | ⟨h1, rfl, rfl⟩ <;> rcases h2 with ⟨h2, rfl⟩ | ⟨h2, rfl, rfl⟩
  · rw [h1, Option.some.injEq] at h2; exact ⟨rfl, gq_ h2⟩
  · rw [h1] at h2; cases h2
  · rw [h1] at h2; cases h2
  · exact ⟨rfl, gq_ rfl⟩
theorem lf_ {r : Str} {Y : List Stp} {e : Int} (h : iw_ r Y e) : e = 0 → dm_ Y = (r, 0) := fun h0 => by
  rcases h with ⟨h1, _⟩ | ⟨_, _, h2⟩
  · exact mv_ h1 Y rfl
  · rw [h0] at h2; cases h2
theorem le_ {r : Str} {Y : List Stp} {e : Int} (h : iw_ r Y e) : Y.length ≤ 65536 ∧ ∀ s ∈ Y, s.frm.length ≤ 255 ∧ s.fact.sml := by
  rcases h with ⟨h1, _⟩ | ⟨_, rfl, _⟩
  · rcases mw_ (mv_ h1 Y rfl) with ⟨_, q1, q2, _⟩ | ⟨q, _⟩
    · refine ⟨q1, fun s hs => ?_⟩
      obtain ⟨_, _, _, _, _, _, h7, _, h9, h10, h11⟩ := dH_.1 (q2 s hs)
      exact ⟨by omega, by omega, by omega, by omega⟩
    · exact absurd rfl q
  · exact ⟨Nat.zero_le _, fun s hs => by simp at hs⟩
theorem pT_ {l Y : List Stp} {L : Str} {e g : Int} (hE : dm_ l = (L, e)) (he : e = 0) (hi : ∀ s ∈ l, I64 s.fact.lo ∧ I64 s.fact.hi) (h : iw_ L Y g) : g = 0 ∧ SameS l Y := by
  subst he
  have hd := mx_ hE hi
  rcases h with ⟨h1, h2⟩ | ⟨h1, _⟩
  · rw [hd, Option.some.injEq] at h1; exact ⟨h2, gq_ h1⟩
  · rw [hd] at h1; cases h1
set_option maxHeartbeats 1000000 in
theorem checkerBytes_c (l : List Stp) (ad : Option Addr) (cap : Nat) (hl : l.length ≤ 1256584717424) (hlim : ∀ s ∈ l, s.fact.lim) (hI : ∀ s ∈ l, I64 s.fact.lo ∧ I64 s.fact.hi) (r : Str) (bad : Option Addr) (bcap : Nat) (hok : Dst.ok (Dst.mk bad bcap r)) : Tri Tryz.prog 6 #[.agg #[.slice ad (List.length l) cap], .slice bad (List.length r) bcap] [] [aY_ ad (List.flatMap Stp.cells l), cP_ l, aY_ bad (List.flatMap u8C r), jx_, gL_] (fun _ : Unit => .bool true) (fun _ => []) (fun _ => []) := by
 refine S_ Tryz.func6 rfl rfl Tryz.ntmps6 rfl fun v0 => ?_
 refine g_ (c_ (aM_ rfl rfl fun b1 => ?_))
 refine a_ (e_ rfl) rfl (d_ (b_ rfl (g_ (g_ (c_ (K_ (nI_) rfl x_ (fun v _ h => by exact ⟨h.2.2.2.1, h.2.2.2.2.1, trivial⟩) rfl fun _ => ?_))))))
 refine a_ (bu_ rfl) rfl (d_ (b_ rfl (A_ rfl (J_ (b_ rfl (g_ (g_ (c_ (a_ (M_ 0 bN_ aO_ rfl rfl rfl) rfl ?_)))))))))
 refine K_ (pM_ l ad cap hl hlim) rfl x_ (fun v _ h => by exact ⟨h.1, h.2.1, trivial⟩) rfl fun ⟨fw, hfw⟩ => ?_
 dsimp only
 refine a_ (bu_ rfl) rfl (a_ (f_ rfl) rfl ?_)
 cases fw
 ·
  refine k_ rfl rfl rfl rfl (k_ rfl rfl rfl rfl (k_ rfl rfl rfl rfl (a_ (v_ rfl rfl) rfl (d_ (b_ rfl (w_ rfl (g_ (c_ (a_ (e_ rfl) rfl ?_)))))))))
  refine d_ (b_ rfl (u_ ?_))
  exact Y_ jG_ () rfl x_ (fun _ _ _ => trivial)
 ·
  obtain ⟨hl60, hfew⟩ := hfw rfl
  have hfr : ∀ s ∈ l, s.frm.length ≤ 1000000 := fun s hs => by have := (hfew s hs).1; omega
  have hsml : ∀ s ∈ l, s.fact.sml := fun s hs => (hfew s hs).sml
  obtain ⟨⟨L, e⟩, hE⟩ : ∃ q, dm_ l = q := ⟨_, rfl⟩
  refine i_ rfl rfl (a_ (f_ rfl) rfl (i_ rfl rfl (a_ (aA_ aE_ rfl) rfl (i_ rfl rfl (E_ (bp_ rfl rfl) rfl fun r1 hr1 => ?_)))))
  refine a_ (t_ rfl rfl) rfl (d_ (b_ rfl ?_))
  cases r1
  ·
   replace hr1 := of_decide_eq_false hr1
   refine A_ rfl (J_ (b_ rfl (g_ (c_ (a_ (M_ 0 bN_ aO_ rfl rfl rfl) rfl (K_ (iq_ l ad cap L e hE (by omega) hfr hsml) rfl x_ (fun v _ h => by exact ⟨h.1, h.2.1, trivial⟩) rfl fun ⟨⟨sve1, He1⟩, he1⟩ => ?_))))))
   dsimp only
   refine as_ iT_ (cf_ he1 bM_ fun ea1 ec1 hea1 hcea1 hmea1 hzea1 => ?_)
   subst hea1
   refine a_ (f_ rfl) rfl (a_ (V_ rfl rfl) rfl (a_ (V_ rfl rfl) rfl (a_ (e_ rfl) rfl (a_ (e_ rfl) rfl (d_ (b_ rfl (g_ (c_ (a_ (M_ 0 bN_ aO_ rfl rfl rfl) rfl ?_)))))))))
   refine K_ (pf_ l ad cap L e hE (by omega) hfr hsml) rfl x_ (fun v _ h => by exact ⟨h.2.1, h.2.2.1, trivial⟩) rfl fun ⟨⟨sve2, He2⟩, he2⟩ => ?_
   dsimp only
   refine as_ iT_ (cf_ he2 bM_ fun ea2 ec2 hea2 hcea2 hmea2 hzea2 => ?_)
   subst hea2
   refine a_ (f_ rfl) rfl (a_ (V_ rfl rfl) rfl (a_ (V_ rfl rfl) rfl (a_ (e_ rfl) rfl (a_ (e_ rfl) rfl (d_ (b_ rfl (g_ (g_ (c_ ?_)))))))))
   refine a_ (f_ rfl) rfl (a_ (ei_ bS_ bx_ bR_ rfl (fun v _ h => by exact h.2.1)) rfl (a_ (f_ rfl) rfl (a_ (ei_ bS_ bx_ bR_ rfl (fun v _ h => by exact h.1)) rfl (E_ (fv_ rfl rfl) rfl fun r2 hr2 => ?_))))
   refine a_ (f_ rfl) rfl ?_
   cases r2
   ·
    replace hr2 := bw_ hr2
    refine i_ rfl rfl (a_ (f_ rfl) rfl (i_ rfl rfl (a_ (f_ rfl) rfl (i_ rfl rfl (E_ (bF_ rfl rfl) rfl fun r3 hr3 => ?_)))))
    refine a_ (t_ rfl rfl) rfl (d_ (b_ rfl ?_))
    cases r3
    ·
     replace hr3 := bw_ hr3
     refine A_ rfl (J_ (b_ rfl (g_ (c_ (a_ (f_ rfl) rfl (K_ (fH_ L ea1 ec1 ⟨hcea1, hmea1, hzea1⟩) rfl x_ (fun v _ h => by exact ⟨h.2.1, trivial⟩) rfl fun ⟨⟨⟨Y, ya, yc⟩, g⟩, hD1, hY1, hM1, hZ1⟩ => ?_))))))
     dsimp only
     dsimp only at hD1 hY1 hM1 hZ1
     refine a_ (f_ rfl) rfl (a_ (V_ rfl rfl) rfl (a_ (V_ rfl rfl) rfl (Z_ ca_ rfl fun b2 => ?_)))
     refine Q_ 0 aO_ rfl rfl rfl rfl rfl rfl (a_ (e_ rfl) rfl (d_ (b_ rfl (g_ (g_ (c_ (a_ (f_ rfl) rfl (E_ (aG_ rfl rfl) rfl fun r4 hr4 => ?_))))))))
     refine a_ (f_ rfl) rfl ?_
     cases r4
     ·
      replace hr4 := ne_of_beq_false hr4
      refine k_ rfl rfl rfl rfl (k_ rfl rfl rfl rfl (k_ rfl rfl rfl rfl (k_ rfl rfl rfl rfl (k_ rfl rfl rfl rfl (k_ rfl rfl rfl rfl (k_ rfl rfl rfl rfl (k_ rfl rfl rfl rfl (a_ (t_ rfl rfl) rfl (d_ ?_)))))))))
      refine b_ rfl (A_ rfl (J_ (b_ rfl (g_ (c_ (a_ (f_ rfl) rfl (K_ (fH_ r bad bcap hok) rfl x_ (fun v _ h => by exact ⟨h.2.2.2.2.2.2.1, trivial⟩) rfl fun ⟨⟨⟨Z, za, zc⟩, h⟩, hD2, hY2, hM2, hZ2⟩ => ?_)))))))
      dsimp only
      dsimp only at hD2 hY2 hM2 hZ2
      obtain ⟨hZ65, hZf⟩ := le_ hD2
      obtain ⟨⟨M, j⟩, hE2⟩ : ∃ q, dm_ Z = q := ⟨_, rfl⟩
      refine a_ (f_ rfl) rfl (a_ (V_ rfl rfl) rfl (a_ (V_ rfl rfl) rfl (Z_ ca_ rfl fun b3 => ?_)))
      refine Q_ 0 aO_ rfl rfl rfl rfl rfl rfl (a_ (e_ rfl) rfl (d_ (b_ rfl (g_ (c_ (a_ (f_ rfl) rfl (K_ (iO_ r bad bcap hok) rfl x_ (fun v _ h => by exact ⟨h.2.2.2.2.2.2.2.2.1, trivial⟩) rfl fun ⟨⟨⟨W, wa, wc⟩, i⟩, hD3, hY3, hM3, hZ3⟩ => ?_)))))))
      dsimp only
      dsimp only at hD3 hY3 hM3 hZ3
      obtain ⟨hhi, hS2⟩ := jm_ hD2 hD3
      refine a_ (f_ rfl) rfl (a_ (V_ rfl rfl) rfl (a_ (V_ rfl rfl) rfl (Z_ ca_ rfl fun b4 => ?_)))
      refine Q_ 0 aO_ rfl rfl rfl rfl rfl rfl (a_ (e_ rfl) rfl (d_ (b_ rfl (g_ (g_ (c_ (a_ (f_ rfl) rfl (a_ (f_ rfl) rfl (E_ (bF_ rfl rfl) rfl fun r5 hr5 => ?_)))))))))
      refine a_ (f_ rfl) rfl ?_
      cases r5
      ·
       replace hr5 := bw_ hr5
       refine i_ rfl rfl (a_ (M_ 1 bN_ aO_ rfl rfl rfl) rfl (i_ rfl rfl (a_ (M_ 0 bN_ aO_ rfl rfl rfl) rfl (i_ rfl rfl (K_ (hu_ Z za zc W wa wc hS2 (by omega) (fun s hs => by have := (hZf s hs).1; omega)) rfl x_ (fun v _ h => by exact ⟨h.2.2.1, h.2.2.2.1, h.1, h.2.1, trivial⟩) rfl fun _ => ?_)))))
       refine i_ rfl rfl (a_ (bu_ rfl) rfl (a_ (t_ rfl rfl) rfl (d_ (b_ rfl (A_ rfl (J_ (b_ rfl (g_ (c_ ?_)))))))))
       refine a_ (M_ 1 bN_ aO_ rfl rfl rfl) rfl (K_ (iq_ Z za zc M j hE2 (by omega) (fun s hs => by have := (hZf s hs).1; omega) (fun s hs => (hZf s hs).2)) rfl x_ (fun v _ h => by exact ⟨h.2.2.1, h.2.2.2.1, trivial⟩) rfl fun ⟨⟨sve3, He3⟩, he3⟩ => ?_)
       dsimp only
       refine as_ iT_ (cf_ he3 bM_ fun ea3 ec3 hea3 hcea3 hmea3 hzea3 => ?_)
       subst hea3
       refine a_ (f_ rfl) rfl (a_ (V_ rfl rfl) rfl (a_ (V_ rfl rfl) rfl (a_ (e_ rfl) rfl (a_ (e_ rfl) rfl (d_ (b_ rfl (g_ (c_ (a_ (f_ rfl) rfl ?_)))))))))
       refine E_ (bF_ rfl rfl) rfl fun r6 hr6 => ?_
       refine a_ (f_ rfl) rfl ?_
       cases r6
       ·
        replace hr6 := bw_ hr6
        have hq := lf_ hD2 (by omega)
        rw [hE2, Prod.mk.injEq] at hq
        obtain ⟨hMr, hj0⟩ := hq
        refine i_ rfl rfl (a_ (f_ rfl) rfl (i_ rfl rfl (E_ (aG_ rfl rfl) rfl fun r7 hr7 => ?_)))
        refine i_ rfl rfl (a_ (f_ rfl) rfl ?_)
        cases r7
        ·
         replace hr7 := ne_of_beq_false hr7
         exact absurd hj0 hr7
        ·
         replace hr7 := eq_of_beq hr7
         refine i_ rfl rfl (a_ (f_ rfl) rfl (i_ rfl rfl (a_ (ei_ bS_ bx_ bR_ rfl (fun v _ h => by exact h.1)) rfl (i_ rfl rfl (a_ (f_ rfl) rfl (i_ rfl rfl (a_ (ei_ bS_ bx_ bR_ rfl (fun v _ h => by exact h.2.2.2.2.2.2.2.2.2.2.2.1)) rfl (i_ rfl rfl (E_ (bo_ rfl rfl) rfl fun r8 hr8 => ?_)))))))))
         refine i_ rfl rfl (a_ (v_ rfl rfl) rfl (a_ (t_ rfl rfl) rfl (a_ (e_ rfl) rfl (d_ (b_ rfl (u_ ?_))))))
         exact Y_ jG_ () (s_ rfl (by rw [← hr8, hMr]; simp)) x_ (fun _ _ _ => trivial)
       ·
        replace hr6 := bv_ hr6
        refine k_ rfl rfl rfl rfl (k_ rfl rfl rfl rfl (k_ rfl rfl rfl rfl (k_ rfl rfl rfl rfl (k_ rfl rfl rfl rfl (k_ rfl rfl rfl rfl (k_ rfl rfl rfl rfl (k_ rfl rfl rfl rfl (k_ rfl rfl rfl rfl (a_ (v_ rfl rfl) rfl ?_)))))))))
        refine a_ (e_ rfl) rfl (d_ (b_ rfl (u_ ?_)))
        exact Y_ jG_ () rfl x_ (fun _ _ _ => trivial)
      ·
       replace hr5 := bv_ hr5
       exact absurd hhi hr5
     ·
      replace hr4 := eq_of_beq hr4
      have he0 : e = 0 := by omega
      obtain ⟨hg0, hS1⟩ := pT_ hE he0 hI hD1
      refine i_ rfl rfl (a_ (f_ rfl) rfl (i_ rfl rfl (E_ (bF_ rfl rfl) rfl fun r9 hr9 => ?_)))
      refine i_ rfl rfl (a_ (f_ rfl) rfl ?_)
      cases r9
      ·
       replace hr9 := bw_ hr9
       refine i_ rfl rfl (a_ (M_ 1 bN_ aO_ rfl rfl rfl) rfl (i_ rfl rfl (a_ (M_ 0 bN_ aO_ rfl rfl rfl) rfl (i_ rfl rfl (K_ (hu_ l ad cap Y ya yc hS1 (by omega) (fun s hs => hfr s hs)) rfl x_ (fun v _ h => by exact ⟨h.2.2.2.2.1, h.2.2.2.2.2.1, h.1, h.2.1, trivial⟩) rfl fun _ => ?_)))))
       refine i_ rfl rfl (a_ (bu_ rfl) rfl (i_ rfl rfl (a_ (t_ rfl rfl) rfl (a_ (v_ rfl rfl) rfl (d_ (b_ rfl (A_ rfl (J_ (b_ rfl ?_)))))))))
       refine g_ (c_ (a_ (f_ rfl) rfl (K_ (fH_ r bad bcap hok) rfl x_ (fun v _ h => by exact ⟨h.2.2.2.2.2.2.1, trivial⟩) rfl fun ⟨⟨⟨Z, za, zc⟩, h⟩, hD2, hY2, hM2, hZ2⟩ => ?_)))
       dsimp only
       dsimp only at hD2 hY2 hM2 hZ2
       obtain ⟨hZ65, hZf⟩ := le_ hD2
       obtain ⟨⟨M, j⟩, hE2⟩ : ∃ q, dm_ Z = q := ⟨_, rfl⟩
       refine a_ (f_ rfl) rfl (a_ (V_ rfl rfl) rfl (a_ (V_ rfl rfl) rfl (Z_ ca_ rfl fun b5 => ?_)))
       refine Q_ 0 aO_ rfl rfl rfl rfl rfl rfl (a_ (e_ rfl) rfl (d_ (b_ rfl (g_ (c_ (a_ (f_ rfl) rfl (K_ (iO_ r bad bcap hok) rfl x_ (fun v _ h => by exact ⟨h.2.2.2.2.2.2.2.2.1, trivial⟩) rfl fun ⟨⟨⟨W, wa, wc⟩, i⟩, hD3, hY3, hM3, hZ3⟩ => ?_)))))))
       dsimp only
       dsimp only at hD3 hY3 hM3 hZ3
       obtain ⟨hhi, hS2⟩ := jm_ hD2 hD3
       refine a_ (f_ rfl) rfl (a_ (V_ rfl rfl) rfl (a_ (V_ rfl rfl) rfl (Z_ ca_ rfl fun b6 => ?_)))
       refine Q_ 0 aO_ rfl rfl rfl rfl rfl rfl (a_ (e_ rfl) rfl (d_ (b_ rfl (g_ (g_ (c_ (a_ (f_ rfl) rfl (a_ (f_ rfl) rfl (E_ (bF_ rfl rfl) rfl fun r10 hr10 => ?_)))))))))
       refine a_ (f_ rfl) rfl ?_
       cases r10
       ·
        replace hr10 := bw_ hr10
        refine i_ rfl rfl (a_ (M_ 1 bN_ aO_ rfl rfl rfl) rfl (i_ rfl rfl (a_ (M_ 0 bN_ aO_ rfl rfl rfl) rfl (i_ rfl rfl (K_ (hu_ Z za zc W wa wc hS2 (by omega) (fun s hs => by have := (hZf s hs).1; omega)) rfl x_ (fun v _ h => by exact ⟨h.2.2.1, h.2.2.2.1, h.1, h.2.1, trivial⟩) rfl fun _ => ?_)))))
        refine i_ rfl rfl (a_ (bu_ rfl) rfl (a_ (t_ rfl rfl) rfl (d_ (b_ rfl (A_ rfl (J_ (b_ rfl (g_ (c_ ?_)))))))))
        refine a_ (M_ 1 bN_ aO_ rfl rfl rfl) rfl (K_ (iq_ Z za zc M j hE2 (by omega) (fun s hs => by have := (hZf s hs).1; omega) (fun s hs => (hZf s hs).2)) rfl x_ (fun v _ h => by exact ⟨h.2.2.1, h.2.2.2.1, trivial⟩) rfl fun ⟨⟨sve3, He3⟩, he3⟩ => ?_)
        dsimp only
        refine as_ iT_ (cf_ he3 bM_ fun ea3 ec3 hea3 hcea3 hmea3 hzea3 => ?_)
        subst hea3
        refine a_ (f_ rfl) rfl (a_ (V_ rfl rfl) rfl (a_ (V_ rfl rfl) rfl (a_ (e_ rfl) rfl (a_ (e_ rfl) rfl (d_ (b_ rfl (g_ (c_ (a_ (f_ rfl) rfl ?_)))))))))
        refine E_ (bF_ rfl rfl) rfl fun r11 hr11 => ?_
        refine a_ (f_ rfl) rfl ?_
        cases r11
        ·
         replace hr11 := bw_ hr11
         have hq := lf_ hD2 (by omega)
         rw [hE2, Prod.mk.injEq] at hq
         obtain ⟨hMr, hj0⟩ := hq
         refine i_ rfl rfl (a_ (f_ rfl) rfl (i_ rfl rfl (E_ (aG_ rfl rfl) rfl fun r12 hr12 => ?_)))
         refine i_ rfl rfl (a_ (f_ rfl) rfl ?_)
         cases r12
         ·
          replace hr12 := ne_of_beq_false hr12
          exact absurd hj0 hr12
         ·
          replace hr12 := eq_of_beq hr12
          refine i_ rfl rfl (a_ (f_ rfl) rfl (i_ rfl rfl (a_ (ei_ bS_ bx_ bR_ rfl (fun v _ h => by exact h.1)) rfl (i_ rfl rfl (a_ (f_ rfl) rfl (i_ rfl rfl (a_ (ei_ bS_ bx_ bR_ rfl (fun v _ h => by exact h.2.2.2.2.2.2.2.2.2.2.2.1)) rfl (i_ rfl rfl (E_ (bo_ rfl rfl) rfl fun r13 hr13 => ?_)))))))))
          refine i_ rfl rfl (a_ (v_ rfl rfl) rfl (a_ (t_ rfl rfl) rfl (a_ (e_ rfl) rfl (d_ (b_ rfl (u_ ?_))))))
          exact Y_ jG_ () (s_ rfl (by rw [← hr13, hMr]; simp)) x_ (fun _ _ _ => trivial)
        ·
         replace hr11 := bv_ hr11
         refine k_ rfl rfl rfl rfl (k_ rfl rfl rfl rfl (k_ rfl rfl rfl rfl (k_ rfl rfl rfl rfl (k_ rfl rfl rfl rfl (k_ rfl rfl rfl rfl (k_ rfl rfl rfl rfl (k_ rfl rfl rfl rfl (k_ rfl rfl rfl rfl (a_ (v_ rfl rfl) rfl ?_)))))))))
         refine a_ (e_ rfl) rfl (d_ (b_ rfl (u_ ?_)))
         exact Y_ jG_ () rfl x_ (fun _ _ _ => trivial)
       ·
        replace hr10 := bv_ hr10
        exact absurd hhi hr10
      ·
       replace hr9 := bv_ hr9
       exact absurd hg0 hr9
    ·
     replace hr3 := bv_ hr3
     exact absurd rfl hr3
   ·
    replace hr2 := bv_ hr2
    exact absurd rfl hr2
  ·
   replace hr1 := of_decide_eq_true hr1
   refine w_ rfl (g_ (c_ (a_ (e_ rfl) rfl (d_ (b_ rfl (u_ ?_))))))
   exact Y_ jG_ () rfl x_ (fun _ _ _ => trivial)
end Go.Proofs.YtaffcjgphlhppaaGreatDoor
namespace Go.Proofs.YtaffcjgphlhppaaGreatDoor
open Go Go.Sx Go.Proofs
attribute [local irreducible] Code.wp wpList wpAnyH
open Go.Vs
structure Pf where
  l : List Stp
  ad : Option Addr
  cap : Nat
def Pf.cells (y : Pf) : List Value := [.slice y.ad y.l.length y.cap]
theorem Pf.cells_len (y : Pf) : y.cells.length = 1 := rfl
def Pf.val (y : Pf) : Value := .agg y.cells.toArray
structure Pf.lim (y : Pf) : Prop where
  len : y.l.length ≤ 1256584717424
  st : ∀ s ∈ y.l, s.fact.lim
structure Pf.few (y : Pf) : Prop where
  len : y.l.length ≤ 60
  st : ∀ s ∈ y.l, s.few
end Go.Proofs.YtaffcjgphlhppaaGreatDoor
namespace Go.Proofs.YtaffcjgphlhppaaGreatDoor
open Go Go.Sx Go.Proofs
attribute [local irreducible] Code.wp wpList wpAnyH
open Go.Vs Go.ChangeShapes Go.WideShapes Go.ChangeAt Go.RowKit
structure TysR (P : Program) (tI tS tF tIs tX tXs tQ tU tUs : TypeId) : Prop where
  f : ∃ fs, P.underlying tF = some (.struct fs) ∧ fs.toList.map (fun f => (f.type, f.offset)) = [(tI, 0), (tS, 1), (tS, 2), (tS, 3), (tI, 4), (tI, 5)]
  cf : P.cellsOf tF = 6
  x : ∃ fs, P.underlying tX = some (.struct fs) ∧ fs.toList.map (fun f => (f.type, f.offset)) = [(tI, 0), (tF, 1), (tI, 7), (tIs, 8)]
  xs : P.underlying tXs = some (.slice tX)
  is : P.underlying tIs = some (.slice tI)
  q : ∃ fs, P.underlying tQ = some (.struct fs) ∧ fs.toList.map (fun f => (f.type, f.offset)) = [(tXs, 0)]
  u : P.underlying tU = some (.int .u8)
  us : P.underlying tUs = some (.slice tU)
  cis : P.cellsOf tIs = 1
  cx : P.cellsOf tX = 9
  cxs : P.cellsOf tXs = 1
  cq : P.cellsOf tQ = 1
  cu : P.cellsOf tU = 1
  bi : P.bytesOf tI = 8
  bx : P.bytesOf tX = 112
  bu : P.bytesOf tU = 1
structure frd (f : Fc) : Prop where
  lim : f.lim
  lo : I64 f.lo
  hi : I64 f.hi
structure srd (W : World) (s : Stp) : Prop where
  row : bV_ (vw W) s.ad (s.frm.flatMap dg_)
  fact : frd s.fact
  le : s.frm.length ≤ s.cap
  mx : s.cap ≤ 17592186044416
structure prd (W : World) (y : Pf) : Prop where
  row : bV_ (vw W) y.ad (y.l.flatMap Stp.cells)
  st : ∀ s ∈ y.l, srd W s
  le : y.l.length ≤ y.cap
  mx : y.cap ≤ 1256584717424
section
variable {H : Type} {enc : TypeId × Value → H} {P : Program} {W : World} {tI tB tS tSs tC tCs tA tAs tP tPs tF tIs tX tXs tQ tU tUs tQs : TypeId} (X : Tys P tI tB tS tSs tC tCs tA tAs tP tPs) (Y : TysR P tI tS tF tIs tX tXs tQ tU tUs)
include X Y
theorem rfc_of {n : Nat} {cs : List Value} {x : DataW H × List MemPlace} (h : DataW.trod enc P W 0 (fun _ => true) true n tF cs = some x) (hw : wok (x.1.weights P tF)) : ∃ f : Fc, cs = f.cells ∧ frd f := by
  obtain ⟨fs, hu, hL⟩ := Y.f
  obtain ⟨xs, m, hn, hx, hl, hlen, hf, hwe⟩ := fields_of hu hL h
  rw [hwe] at hw
  match xs, hlen with
  | [x0, x1, x2, x3, x4, x5], _ =>
  simp only [List.map_cons, List.map_nil, DataW.weightsEach, dS_] at hw
  have f0 := hf 0 _ rfl; have f1 := hf 1 _ rfl; have f2 := hf 2 _ rfl; have f3 := hf 3 _ rfl; have f4 := hf 4 _ rfl; have f5 := hf 5 _ rfl
  simp only [List.getElem?_cons_zero, List.getElem?_cons_succ, X.ci, X.cs1] at f0 f1 f2 f3 f4 f5
  obtain ⟨k, e0, _, _⟩ := gV_ X f0
  obtain ⟨a, e1, n1⟩ := Go.Vs.str_of X f1 hw.2.1
  obtain ⟨b, e2, n2⟩ := Go.Vs.str_of X f2 hw.2.2.1
  obtain ⟨r, e3, n3⟩ := Go.Vs.str_of X f3 hw.2.2.2.1
  obtain ⟨lo, e4, l1, l2⟩ := gV_ X f4
  obtain ⟨hi, e5, l3, l4⟩ := gV_ X f5
  rw [Y.cf] at hl
  match cs, hl with
  | [c0, c1, c2, c3, c4, c5], _ =>
  simp only [List.drop_succ_cons, List.drop_zero, List.take_succ_cons, List.take_zero, List.cons.injEq, and_true] at e0 e1 e2 e3 e4 e5
  subst e0 e1 e2 e3 e4 e5
  exact ⟨⟨k, a, b, r, lo, hi⟩, rfl, ⟨n1, n2, n3⟩, ⟨l1, l2⟩, ⟨l3, l4⟩⟩
theorem nN_ {n : Nat} {cs : List Value} {x : DataW H × List MemPlace} (h : DataW.trod enc P W 0 (fun _ => true) true n tIs cs = some x) (hw : wok (x.1.weights P tIs)) :
    ∃ (l : List Int) (ad : Option Addr) (cap : Nat), cs = [.slice ad l.length cap] ∧ bV_ (vw W) ad (l.flatMap dg_) ∧ l.length ≤ cap ∧ cap ≤ 17592186044416 := by
  obtain ⟨l, ad, cap, e, hrow, hq, hlc, hcap⟩ := jE_ dg_ 1 cu_ (by decide) (fun y : Int => -9223372036854775808 ≤ y ∧ y ≤ 9223372036854775807) Y.is X.ci (fun m' _ cs' y hy _ => gV_ X hy) h hw
  rw [Y.bi] at hcap; simp only [reachBytes] at hcap
  exact ⟨l, ad, cap, e, hrow, hlc, by omega⟩
theorem pc_ {n : Nat} {cs : List Value} {x : DataW H × List MemPlace} (h : DataW.trod enc P W 0 (fun _ => true) true n tX cs = some x) (hw : wok (x.1.weights P tX)) : ∃ s : Stp, cs = s.cells ∧ srd W s := by
  obtain ⟨fs, hu, hL⟩ := Y.x
  obtain ⟨xs, m, hn, hx, hl, hlen, hf, hwe⟩ := fields_of hu hL h
  rw [hwe] at hw
  match xs, hlen with
  | [x0, x1, x2, x3], _ =>
  simp only [List.map_cons, List.map_nil, DataW.weightsEach, dS_] at hw
  have f0 := hf 0 _ rfl; have f1 := hf 1 _ rfl; have f2 := hf 2 _ rfl; have f3 := hf 3 _ rfl
  simp only [List.getElem?_cons_zero, List.getElem?_cons_succ, X.ci, Y.cf, Y.cis] at f0 f1 f2 f3
  obtain ⟨k, e0, _, _⟩ := gV_ X f0
  obtain ⟨f, e1, bf⟩ := rfc_of X Y f1 hw.2.1
  obtain ⟨pc, e2, _, _⟩ := gV_ X f2
  obtain ⟨l, ad, cap, e3, r3, l3, m3⟩ := nN_ X Y f3 hw.2.2.2.1
  rw [Y.cx] at hl
  match cs, hl with
  | [c0, c1, c2, c3, c4, c5, c6, c7, c8], _ =>
  simp only [List.drop_succ_cons, List.drop_zero, List.take_succ_cons, List.take_zero, List.cons.injEq, and_true, Fc.cells] at e0 e1 e2 e3
  refine ⟨⟨k, f, pc, ad, cap, l⟩, ?_, r3, bf, l3, m3⟩
  obtain ⟨a1, a2, a3, a4, a5, a6⟩ := e1
  rw [e0, a1, a2, a3, a4, a5, a6, e2, e3]; rfl
theorem nM_ {n : Nat} {cs : List Value} {x : DataW H × List MemPlace} (h : DataW.trod enc P W 0 (fun _ => true) true n tXs cs = some x) (hw : wok (x.1.weights P tXs)) :
    ∃ (l : List Stp) (ad : Option Addr) (cap : Nat), cs = [.slice ad l.length cap] ∧ bV_ (vw W) ad (l.flatMap Stp.cells) ∧ (∀ y ∈ l, srd W y) ∧ l.length ≤ cap ∧ cap ≤ 1256584717424 := by
  have : Inhabited Stp := ⟨⟨0, zfc, 0, none, 0, []⟩⟩
  obtain ⟨l, ad, cap, e, hrow, hq, hlc, hcap⟩ := jE_ Stp.cells 9 Stp.cells_len (by decide) (srd W) Y.xs Y.cx (fun m' _ cs' y hy hwy => pc_ X Y hy hwy) h hw
  rw [Y.bx] at hcap; simp only [reachBytes] at hcap
  exact ⟨l, ad, cap, e, hrow, hq, hlc, by omega⟩
theorem pd_ {n : Nat} {cs : List Value} {x : DataW H × List MemPlace} (h : DataW.trod enc P W 0 (fun _ => true) true n tQ cs = some x) (hw : wok (x.1.weights P tQ)) : ∃ y : Pf, cs = y.cells ∧ prd W y := by
  obtain ⟨fs, hu, hL⟩ := Y.q
  obtain ⟨xs, m, hn2, hx, hl, hlen, hf, hwe⟩ := fields_of hu hL h
  rw [hwe] at hw
  match xs, hlen with
  | [x0], _ =>
  simp only [List.map_cons, List.map_nil, DataW.weightsEach, dS_] at hw
  have f0 := hf 0 _ rfl
  simp only [List.getElem?_cons_zero, Y.cxs] at f0
  obtain ⟨l, ad, cap, e0, h1, h2, h3, h4⟩ := nM_ X Y f0 hw.1
  rw [Y.cq] at hl
  rw [List.drop_zero, List.take_of_length_le (by omega)] at e0
  exact ⟨⟨l, ad, cap⟩, e0, h1, h2, h3, h4⟩
variable {base : Nat} {v : Value} {d : DataW H} {ps : List MemPlace}
theorem pW_ (hval : Value.okWide P W .any base tQ v) (h : DataW.Trod enc P W 0 (fun _ => true) true tQ v d ps) (hw : wok (d.weights P tQ)) :
    ∃ (l : List Stp) (ad : Option Addr) (cap : Nat), v = .agg #[.slice ad l.length cap] ∧ bV_ (vw W) ad (l.flatMap Stp.cells) ∧ (∀ y ∈ l, srd W y) ∧ l.length ≤ cap ∧ cap ≤ 1256584717424 := by
  obtain ⟨fs, hu, _⟩ := Y.q
  unfold Value.okWide at hval
  rw [hu] at hval
  obtain ⟨cs, rfl, _⟩ := hval
  obtain ⟨n, hn⟩ := h
  simp only [Value.cells] at hn
  obtain ⟨y, e, h1, h2, h3, h4⟩ := pd_ X Y hn hw
  refine ⟨y.l, y.ad, y.cap, ?_, h1, h2, h3, h4⟩
  obtain ⟨a⟩ := cs
  simp only at e
  subst e
  rfl
end
theorem nG_ {H : Type} {enc : TypeId × Value → H} {P : Program} {W : World} {ts te : TypeId} (hs : P.underlying ts = some (.slice te)) {n : Nat} {ad : Option Addr} {len cap : Nat} {x : DataW H × List MemPlace} (h : DataW.trod enc P W 0 (fun _ => true) true n ts [.slice ad len cap] = some x) : ad = none → cap = 0 := by
  intro e
  subst e
  rcases DataW.trod_slice hs h with ⟨h0, _⟩ | ⟨a, l, c, elems, rest, m, hn, h0, _⟩
  · cases h0; rfl
  · cases h0
section
variable {H : Type} {enc : TypeId × Value → H} {P : Program} {W : World} {tI tB tS tSs tC tCs tA tAs tP tPs : TypeId} (X : Tys P tI tB tS tSs tC tCs tA tAs tP tPs) {base : Nat} {v : Value} {d : DataW H} {ps : List MemPlace}
include X
end
section
variable {H : Type} {enc : TypeId × Value → H} {P : Program} {W : World} {tI tS tF tIs tX tXs tQ tU tUs : TypeId} (Y : TysR P tI tS tF tIs tX tXs tQ tU tUs) {base : Nat} {v : Value} {d : DataW H} {ps : List MemPlace}
include Y
theorem nm_ (hval : Value.okWide P W .any base tUs v) (h : DataW.Trod enc P W 0 (fun _ => true) true tUs v d ps) (hw : wok (d.weights P tUs)) :
    ∃ (l : Str) (ad : Option Addr) (cap : Nat), v = .slice ad l.length cap ∧ bV_ (vw W) ad (l.flatMap u8C) ∧ l.length ≤ cap ∧ cap ≤ 140737488351232 ∧ (ad = none → cap = 0) := by
  obtain ⟨a, len, cap, rfl⟩ := okWide_slice Y.us hval
  obtain ⟨n, hn⟩ := h
  obtain ⟨l, ad, cap', e, h1, _, h3, h4⟩ := jE_ u8C 1 (fun _ => rfl) (by decide) (fun _ : UInt8 => True) Y.us Y.cu (fun m' _ cs' y hy _ => by
    obtain ⟨k, e1, _, e3⟩ := DataW.trod_int Y.u hy
    obtain ⟨q1, q2⟩ := bounds_u8 e3
    refine ⟨UInt8.ofNat k.toNat, ?_, trivial⟩
    rw [e1]
    simp only [u8C, List.cons.injEq, Value.int.injEq, and_true, true_and]
    simp only [UInt8.toNat_ofNat']
    omega) hn hw
  rw [Y.bu] at h4; simp only [reachBytes] at h4
  have z := nG_ Y.us (e ▸ hn)
  simp only [Value.cells, List.cons.injEq, and_true] at e
  exact ⟨l, ad, cap', e, h1, h3, by omega, z⟩
end
end Go.Proofs.YtaffcjgphlhppaaGreatDoor
namespace Go.Proofs.YtaffcjgphlhppaaGreatDoor
open Go Go.Sx Go.Proofs
attribute [local irreducible] Code.wp wpList wpAnyH
open Go.Vs Go.ChangeShapes Go.WideShapes Go.ChangeAt Go.RowKit
theorem own : ownKnob Tryz.prog.godebug = none := by kernel_rfl
def eK_ : List (String × DataW Unit) := [("math/bits.deBruijn32tab", Rows.laid_math_bits_deBruijn32tab), ("math/bits.deBruijn64tab", Rows.laid_math_bits_deBruijn64tab), ("internal/strconv.uint64pow10", Rows.laid_internal_strconv_uint64pow10), ("unicode/utf8.acceptRanges", Rows.laid_unicode_utf8_acceptRanges), ("veilstone/terms.needs", Rows.laid_veilstone_terms_needs), ("veilstone/terms.uses", Rows.laid_veilstone_terms_uses), ("veilstone/normal.uses", Rows.laid_veilstone_normal_uses), ("unicode/utf8.first", Rows.laid_unicode_utf8_first)]
theorem ol_ : Kids Tryz.prog (· < Tryz.prog.types.size) := kids_rows (by kernel_rfl) (by kernel_rfl)
theorem full : ∀ t e, t < Tryz.prog.types.size → Tryz.prog.underlying t = some (.slice e) → 0 < Tryz.prog.cellsOf e := slices_full_of _ (by kernel_rfl)
theorem ie_ : Tryz.prog.types.size = 305 := by kernel_rfl
theorem tysX : Tys Tryz.prog 3 4 9 46 56 54 58 53 73 22 where
  i := aT_
  b := Tryz.underlying4
  s := bR_
  ss := Tryz.underlying46
  c := ⟨_, Tryz.underlying56, rfl⟩
  cs := Tryz.underlying54
  a := ⟨_, Tryz.underlying58, rfl⟩
  axs := Tryz.underlying53
  p := ⟨_, Tryz.underlying73, rfl⟩
  ps := Tryz.underlying22
  ci := by kernel_rfl
  cb := by kernel_rfl
  cs1 := by kernel_rfl
  css := by kernel_rfl
  cc := by kernel_rfl
  ccs := by kernel_rfl
  ca := by kernel_rfl
  cp := by kernel_rfl
  bs := by kernel_rfl
  bc := by kernel_rfl
  ba := by kernel_rfl
  bp := by kernel_rfl
theorem hl_ {W : World} (h : laidMetH Tryz.prog eK_ W) : ∃ T fz, W.heap[2]? = some (.cells (dU_ (H := Unit) Rows.laid_veilstone_terms_needs).toArray T fz) := by
  rw [MakeChecks.laidMetH_plain _ _ _ (by kernel_rfl)] at h
  exact gn_ ol_ (name := "veilstone/terms.needs") h (by simp [eK_]) (g := 2) (t := 216) (by kernel_rfl) (by kernel_rfl) (by rw [ie_]; decide) (m := 4) (by kernel_rfl)
theorem hG_ {W : World} (h : laidMetH Tryz.prog eK_ W) : ∃ T fz, W.heap[0]? = some (.cells (dU_ (H := Unit) Rows.laid_veilstone_terms_uses).toArray T fz) := by
  rw [MakeChecks.laidMetH_plain _ _ _ (by kernel_rfl)] at h
  exact gn_ ol_ (name := "veilstone/terms.uses") h (by simp [eK_]) (g := 0) (t := 136) (by kernel_rfl) (by kernel_rfl) (by rw [ie_]; decide) (m := 4) (by kernel_rfl)
theorem hm_ {W : World} (h : laidMetH Tryz.prog eK_ W) : ∃ T fz, W.heap[1]? = some (.cells (dU_ (H := Unit) Rows.laid_veilstone_normal_uses).toArray T fz) := by
  rw [MakeChecks.laidMetH_plain _ _ _ (by kernel_rfl)] at h
  exact gn_ ol_ (name := "veilstone/normal.uses") h (by simp [eK_]) (g := 1) (t := 151) (by kernel_rfl) (by kernel_rfl) (by rw [ie_]; decide) (m := 4) (by kernel_rfl)
theorem eT_ {W : World} (h : laidMetH Tryz.prog eK_ W) : ∃ T fz, W.heap[6]? = some (.cells (dU_ (H := Unit) Rows.laid_internal_strconv_uint64pow10).toArray T fz) := by
  rw [MakeChecks.laidMetH_plain _ _ _ (by kernel_rfl)] at h
  exact gn_ ol_ (name := "internal/strconv.uint64pow10") h (by simp [eK_]) (g := 6) (t := 289) (by kernel_rfl) (by kernel_rfl) (by rw [ie_]; decide) (m := 4) (by kernel_rfl)
theorem jF_ {W : World} {g : Nat} {l : List Value} {d : List Value} (h : ∃ T fz, W.heap[g]? = some (.cells l.toArray T fz)) (e : l = d) : bV_ (vw W) (some ⟨g, 0, none⟩) d := by
  obtain ⟨T, fz, h⟩ := h
  subst e
  exact .inr ⟨g, 0, _, T, fz, rfl, (Array.getElem?_eq_some_iff.1 h).1, h, fun j x hj => by rw [Nat.zero_add]; simpa using hj⟩
theorem lY_ {W : World} (h : laidMetH Tryz.prog eK_ W) : gL_.p (vw W) := by
  refine ⟨jF_ (hl_ h) (by kernel_rfl), jF_ (hG_ h) (by kernel_rfl), jF_ (hm_ h) (by kernel_rfl), ?_⟩
  obtain ⟨T, fz, h2⟩ := eT_ h
  refine ⟨trivial, (Array.getElem?_eq_some_iff.1 h2).1, T, fz, ?_⟩
  rw [show (Lib.pow10Tab.map fun z => Value.int .u64 z) = dU_ (H := Unit) Rows.laid_internal_strconv_uint64pow10 by kernel_rfl]
  exact h2
theorem oV_ {W : World} (h : laidMetH Tryz.prog eK_ W) : jx_.p (vw W) := (lY_ h).2.2.1
theorem tysR : TysR Tryz.prog 3 9 24 34 36 25 27 5 39 where
  f := ⟨_, Tryz.underlying24, rfl⟩
  cf := by kernel_rfl
  x := ⟨_, Tryz.underlying36, rfl⟩
  xs := Tryz.underlying25
  is := Tryz.underlying34
  q := ⟨_, Tryz.underlying27, rfl⟩
  u := bx_
  us := bS_
  cis := by kernel_rfl
  cx := by kernel_rfl
  cxs := by kernel_rfl
  cq := by kernel_rfl
  cu := by kernel_rfl
  bi := by kernel_rfl
  bx := by kernel_rfl
  bu := by kernel_rfl
end Go.Proofs.YtaffcjgphlhppaaGreatDoor
