/-
  Part of the proof of the law CheckerBytes over this seat: the small logic, the data, the contracts of functions (no condition).
-/
import Derived.Test.YtaffcjgphlhppaaGreatDoorQCheckerBytes7
set_option linter.unusedVariables false
set_option linter.unusedSimpArgs false
set_option linter.unusedSectionVars false
namespace Go.Proofs.YtaffcjgphlhppaaGreatDoor
open Go Go.Sx Go.Proofs
attribute [local irreducible] Code.wp wpList wpAnyH
open Go.Vs
theorem jc_ : KeyT Tryz.prog 9 str := om_ bR_
theorem gJ_ {P : Program} {N : Nf} {fr : Fr} {H : Hp} {Γ : List Fct} {op : Op} {ty : TypeId} {kn : Str → Bool} {q : List Str} {k : Str} (hkn : ∀ s, kn s = true ↔ s ∈ q) {i : Decidable (k ∈ q)} (h : Yld P N fr H Γ op ty (.bool (@decide (k ∈ q) i))) : Yld P N fr H Γ op ty (.bool (kn k)) := by
  have e : @decide (k ∈ q) i = kn k := by rw [Bool.eq_iff_iff, hkn]; exact decide_eq_true_iff
  rwa [e] at h
def hn_ : List Value := [.int .i64 0, .int .i64 0, .nilFunc, .int .i64 0, .int .i64 0, .func (.func 128) #[] #[], .int .i64 0, .int .i64 0, .func (.func 130) #[] #[], .int .i64 1, .int .i64 1, .func (.func 131) #[] #[], .int .i64 2, .int .i64 2, .func (.func 132) #[] #[], .int .i64 1, .int .i64 3, .func (.func 133) #[] #[], .int .i64 1, .int .i64 5, .func (.func 135) #[] #[], .int .i64 2, .int .i64 6, .func (.func 136) #[] #[], .int .i64 2, .int .i64 4, .func (.func 137) #[] #[], .int .i64 2, .int .i64 0, .func (.func 138) #[] #[], .int .i64 0, .int .i64 7, .func (.func 139) #[] #[], .int .i64 1, .int .i64 8, .func (.func 140) #[] #[], .int .i64 2, .int .i64 0, .func (.func 141) #[] #[], .int .i64 2, .int .i64 0, .func (.func 142) #[] #[], .int .i64 1, .int .i64 9, .func (.func 143) #[] #[], .int .i64 1, .int .i64 0, .func (.func 144) #[] #[], .int .i64 1, .int .i64 0, .func (.func 145) #[] #[]]
def dc_ (pv : Value) (ab : Nat) (fv : Value) : List Value := pv :: .map (some ab) :: fv :: hn_
theorem ma_ : gH_ Tryz.prog 145 [(0, 1), (1, 6), (7, 1), (8, 10)] [.pointer none, .int .i64 0, str [], str [], str [], .int .i64 0, .int .i64 0, .slice none 0 0, .int .i64 0, str [], str [], str [], str [], str [], str [], .int .i64 0, .int .i64 0, .int .i64 0] := ⟨_, Tryz.zeroValue145, j_, fun w => by simp [l_, aN_, ay_, Tryz.sizeOf74]⟩
set_option maxHeartbeats 1000000 in
theorem px_ (kn : Str → Bool) (q : List Str) (hkn : ∀ s, kn s = true ↔ s ∈ q) (es : Array MapEntry) (ec : Nat) (hE : SetE str es q) (vb ab : Nat) (pv fv : Value) (x : Pc) (f : Fc) (lad : Option Addr) (lcap : Nat) : Tri Tryz.prog 128 #[.agg #[zp_ vb 0, .int .i64 (Fc.kind f), str (Fc.a f), str (Fc.b f), str (Fc.r f), .int .i64 (Fc.lo f), .int .i64 (Fc.hi f), .slice lad (List.length ([] : List Fc)) lcap, .int .i64 (Pc.kind x), str (Pc.a x), str (Pc.b x), str (Pc.c x), str (Pc.r x), str (Pc.s x), str (Pc.t x), .int .i64 (Pc.lo x), .int .i64 (Pc.hi x), .int .i64 (Pc.frm x)]] [] [cp_ vb (.cells (dc_ pv ab fv).toArray 83 (0, 0)), cp_ ab (.map es ec), aY_ lad (List.flatMap Fc.cells ([] : List Fc))] (fun _ : Unit => .bool (pH_ kn x f zfc zfc)) (fun _ => []) (fun _ => []) := by
  refine S_ Tryz.func128 rfl rfl Tryz.ntmps128 rfl fun v0 => ?_
  refine g_ (c_ (aM_ rfl rfl fun b1 => ?_))
  refine a_ (e_ rfl) rfl (d_ (b_ rfl (g_ ?_)))
  refine aW_ (by kernel_rfl) ?_
  refine P_ 12 [0, 1, 2, 3, 4, 5, 6, 7, 8, 9] (by kernel_rfl) (fun _ a b => ⟨a, b⟩) (m_ rfl (h_ j_ rfl rfl rfl Tryz.sizeOf74) rfl (m_ rfl (n_ 0 Tryz.isAgg74 rfl rfl rfl) rfl (m_ rfl (bk_ rfl) rfl (m_ rfl (h_ bm_ rfl rfl rfl pZ_) rfl (m_ rfl (dv_ Tryz.isAgg77 rfl (fun v _ h => by exact h.1) rfl) rfl (m_ rfl (h_ j_ rfl rfl rfl l_) rfl (m_ rfl (h_ o_ rfl rfl rfl y_) rfl (m_ rfl (n_ 0 H_ rfl rfl rfl) rfl ?_))))))))
  refine bJ_ rfl (gJ_ hkn (fw_ (k := (Fc.a f)) jc_ es_ Tryz.zeroValue4 rfl rfl hE (fun v _ h => (by exact h.2.1 : (cp_ ab (.map es ec)).p v).2))) rfl fun r1 hr1 => ?_
  refine m_ rfl (f_ rfl) rfl (O_ ?_)
  cases r1
  · skip
    refine P_ 0 [10, 11, 12, 13, 14, 15, 16, 17, 18, 19, 20, 21] (by kernel_rfl) (fun _ a b => ⟨a, b⟩) (z_ rfl rfl rfl rfl rfl (z_ rfl rfl rfl rfl rfl (z_ rfl rfl rfl rfl rfl (z_ rfl rfl rfl rfl rfl (z_ rfl rfl rfl rfl rfl (z_ rfl rfl rfl rfl rfl (z_ rfl rfl rfl rfl rfl (z_ rfl rfl rfl rfl rfl (z_ rfl rfl rfl rfl rfl ?_)))))))))
    refine z_ rfl rfl rfl rfl rfl (m_ rfl (t_ rfl rfl) rfl (m_ rfl (e_ rfl) rfl (O_ (T_ (by kernel_rfl) (b_ rfl (u_ ?_))))))
    exact Y_ Tryz.results128 () (s_ rfl (by simp only [pH_, hr1, if_true, if_false, decide_true, decide_false, Bool.and_true, Bool.and_false, Bool.true_and, Bool.false_and, Bool.or_true, Bool.or_false, Bool.true_or, Bool.false_or, Bool.not_true, Bool.not_false, ne_eq, not_true_eq_false, not_false_eq_true, true_and, and_true, false_and, and_false, true_or, or_true, false_or, or_false, ite_true, ite_false, Bool.false_eq_true])) x_ (fun _ _ _ => trivial)
  · skip
    refine P_ 4 [10, 11, 12, 13, 14, 15, 16, 17] (by kernel_rfl) (fun _ a b => ⟨a, b⟩) (r_ rfl rfl rfl (h_ j_ rfl rfl rfl l_) rfl (r_ rfl rfl rfl (M_ 0 U_ l_ rfl rfl rfl) rfl (r_ rfl rfl rfl (h_ j_ rfl rfl rfl l_) rfl (r_ rfl rfl rfl (h_ o_ rfl rfl rfl y_) rfl (r_ rfl rfl rfl (n_ 0 H_ rfl rfl rfl) rfl (r_ rfl rfl rfl (h_ j_ rfl rfl rfl l_) rfl (r_ rfl rfl rfl (h_ o_ rfl rfl rfl y_) rfl (r_ rfl rfl rfl (n_ 0 H_ rfl rfl rfl) rfl (O_ ?_)))))))))
    refine L_ 18 rfl (by kernel_rfl) (i_ rfl rfl (K_ (bO_ (Fc.a f) (Fc.a f)) rfl x_ (fun _ _ _ => by exact trivial) rfl fun _ => ?_))
    refine d_ (p_ rfl (D_ (fun _ a b => ⟨a, b⟩) (P_ 0 [19, 20, 21] (by kernel_rfl) (fun _ a b => ⟨a, b⟩) ?_)))
    refine az_ rfl rfl rfl (av_ (p := f) (q := (aL_ (Fc.a f) (Fc.a f))) rfl rfl) rfl fun r2 hr2 => ?_
    refine m_ rfl (v_ rfl rfl) rfl (m_ rfl (e_ rfl) rfl (O_ (T_ (by kernel_rfl) (b_ rfl (u_ ?_)))))
    exact Y_ Tryz.results128 () (s_ rfl (by rw [← hr2]; simp only [pH_, hr1, if_true, if_false, decide_true, decide_false, Bool.and_true, Bool.and_false, Bool.true_and, Bool.false_and, Bool.or_true, Bool.or_false, Bool.true_or, Bool.false_or, Bool.not_true, Bool.not_false, ne_eq, not_true_eq_false, not_false_eq_true, true_and, and_true, false_and, and_false, true_or, or_true, false_or, or_false, ite_true, ite_false, Bool.false_eq_true])) x_ (fun _ _ _ => trivial)
set_option maxHeartbeats 1000000 in
theorem pw_ (kn : Str → Bool) (q : List Str) (hkn : ∀ s, kn s = true ↔ s ∈ q) (es : Array MapEntry) (ec : Nat) (hE : SetE str es q) (vb ab : Nat) (pv fv : Value) (x : Pc) (f : Fc) (lad : Option Addr) (lcap : Nat) : Tri Tryz.prog 130 #[.agg #[zp_ vb 0, .int .i64 (Fc.kind f), str (Fc.a f), str (Fc.b f), str (Fc.r f), .int .i64 (Fc.lo f), .int .i64 (Fc.hi f), .slice lad (List.length ([] : List Fc)) lcap, .int .i64 (Pc.kind x), str (Pc.a x), str (Pc.b x), str (Pc.c x), str (Pc.r x), str (Pc.s x), str (Pc.t x), .int .i64 (Pc.lo x), .int .i64 (Pc.hi x), .int .i64 (Pc.frm x)]] [] [cp_ vb (.cells (dc_ pv ab fv).toArray 83 (0, 0)), cp_ ab (.map es ec), aY_ lad (List.flatMap Fc.cells ([] : List Fc))] (fun _ : Unit => .bool (pG_ kn x f zfc zfc)) (fun _ => []) (fun _ => []) := by
  refine S_ Tryz.func130 rfl rfl Tryz.ntmps130 rfl fun v0 => ?_
  refine g_ (c_ (aM_ rfl rfl fun b1 => ?_))
  refine a_ (e_ rfl) rfl (d_ (b_ rfl (g_ ?_)))
  refine aW_ (by kernel_rfl) ?_
  refine P_ 9 [0, 1, 2, 3, 4, 5, 6, 7, 8, 9] (by kernel_rfl) (fun _ a b => ⟨a, b⟩) (m_ rfl (h_ j_ rfl rfl rfl Tryz.sizeOf74) rfl (m_ rfl (n_ 0 Tryz.isAgg74 rfl rfl rfl) rfl (m_ rfl (bk_ rfl) rfl (m_ rfl (h_ bm_ rfl rfl rfl pZ_) rfl (m_ rfl (dv_ Tryz.isAgg77 rfl (fun v _ h => by exact h.1) rfl) rfl (m_ rfl (h_ j_ rfl rfl rfl l_) rfl (m_ rfl (h_ o_ rfl rfl rfl y_) rfl (m_ rfl (n_ 0 H_ rfl rfl rfl) rfl ?_))))))))
  refine bJ_ rfl (gJ_ hkn (fw_ (k := (Fc.a f)) jc_ es_ Tryz.zeroValue4 rfl rfl hE (fun v _ h => (by exact h.2.1 : (cp_ ab (.map es ec)).p v).2))) rfl fun r1 hr1 => ?_
  refine m_ rfl (f_ rfl) rfl (O_ ?_)
  cases r1
  · skip
    refine P_ 0 [10, 11, 12, 13, 14, 15, 16, 17, 18] (by kernel_rfl) (fun _ a b => ⟨a, b⟩) (z_ rfl rfl rfl rfl rfl (z_ rfl rfl rfl rfl rfl (z_ rfl rfl rfl rfl rfl (z_ rfl rfl rfl rfl rfl (z_ rfl rfl rfl rfl rfl (z_ rfl rfl rfl rfl rfl (z_ rfl rfl rfl rfl rfl (m_ rfl (t_ rfl rfl) rfl (m_ rfl (e_ rfl) rfl ?_)))))))))
    refine O_ (T_ (by kernel_rfl) (b_ rfl (u_ ?_)))
    exact Y_ Tryz.results130 () (s_ rfl (by simp only [pG_, hr1, if_true, if_false, decide_true, decide_false, Bool.and_true, Bool.and_false, Bool.true_and, Bool.false_and, Bool.or_true, Bool.or_false, Bool.true_or, Bool.false_or, Bool.not_true, Bool.not_false, ne_eq, not_true_eq_false, not_false_eq_true, true_and, and_true, false_and, and_false, true_or, or_true, false_or, or_false, ite_true, ite_false, Bool.false_eq_true])) x_ (fun _ _ _ => trivial)
  · skip
    refine P_ 4 [10, 11, 12, 13, 14] (by kernel_rfl) (fun _ a b => ⟨a, b⟩) (r_ rfl rfl rfl (h_ j_ rfl rfl rfl l_) rfl (r_ rfl rfl rfl (M_ 0 U_ l_ rfl rfl rfl) rfl (r_ rfl rfl rfl (h_ j_ rfl rfl rfl l_) rfl (r_ rfl rfl rfl (h_ o_ rfl rfl rfl y_) rfl (r_ rfl rfl rfl (n_ 0 H_ rfl rfl rfl) rfl (O_ (L_ 15 rfl (by kernel_rfl) (i_ rfl rfl (K_ (bO_ (Fc.a f) [42]) rfl x_ (fun _ _ _ => by exact trivial) rfl fun _ => ?_)))))))))
    refine d_ (p_ rfl (D_ (fun _ a b => ⟨a, b⟩) (P_ 0 [16, 17, 18] (by kernel_rfl) (fun _ a b => ⟨a, b⟩) ?_)))
    refine az_ rfl rfl rfl (av_ (p := f) (q := (aL_ (Fc.a f) [42])) rfl rfl) rfl fun r2 hr2 => ?_
    refine m_ rfl (v_ rfl rfl) rfl (m_ rfl (e_ rfl) rfl (O_ (T_ (by kernel_rfl) (b_ rfl (u_ ?_)))))
    exact Y_ Tryz.results130 () (s_ rfl (by rw [← hr2]; simp only [pG_, hr1, if_true, if_false, decide_true, decide_false, Bool.and_true, Bool.and_false, Bool.true_and, Bool.false_and, Bool.or_true, Bool.or_false, Bool.true_or, Bool.false_or, Bool.not_true, Bool.not_false, ne_eq, not_true_eq_false, not_false_eq_true, true_and, and_true, false_and, and_false, true_or, or_true, false_or, or_false, ite_true, ite_false, Bool.false_eq_true])) x_ (fun _ _ _ => trivial)
set_option maxHeartbeats 1000000 in
theorem pv_ (kn : Str → Bool) (q : List Str) (hkn : ∀ s, kn s = true ↔ s ∈ q) (es : Array MapEntry) (ec : Nat) (hE : SetE str es q) (vb ab : Nat) (pv fv : Value) (x : Pc) (f ga : Fc) (lad : Option Addr) (lcap : Nat) : Tri Tryz.prog 131 #[.agg #[zp_ vb 0, .int .i64 (Fc.kind f), str (Fc.a f), str (Fc.b f), str (Fc.r f), .int .i64 (Fc.lo f), .int .i64 (Fc.hi f), .slice lad (List.length [ga]) lcap, .int .i64 (Pc.kind x), str (Pc.a x), str (Pc.b x), str (Pc.c x), str (Pc.r x), str (Pc.s x), str (Pc.t x), .int .i64 (Pc.lo x), .int .i64 (Pc.hi x), .int .i64 (Pc.frm x)]] [] [cp_ vb (.cells (dc_ pv ab fv).toArray 83 (0, 0)), cp_ ab (.map es ec), aY_ lad (List.flatMap Fc.cells [ga])] (fun _ : Unit => .bool (pF_ kn x f ga zfc)) (fun _ => []) (fun _ => []) := by
  refine S_ Tryz.func131 rfl rfl Tryz.ntmps131 rfl fun v0 => ?_
  refine g_ (c_ (aM_ rfl rfl fun b1 => ?_))
  refine a_ (e_ rfl) rfl (d_ (b_ rfl (g_ ?_)))
  refine aW_ (by kernel_rfl) ?_
  refine P_ 15 [0, 1, 2, 3, 4, 5, 6, 7, 8, 9] (by kernel_rfl) (fun _ a b => ⟨a, b⟩) (m_ rfl (h_ j_ rfl rfl rfl aN_) rfl (m_ rfl (n_ 0 bn_ rfl rfl rfl) rfl (m_ rfl (an_ ai_ l_ rfl rfl (fun v _ h => ba_ (n := 6) Fc.cells_len (by decide) (by exact h.2.2.1) (show [ga][0]? = some _ from rfl)) (by omega) (by first | omega | (simp; done))) rfl (m_ rfl (aX_ (ad := lad) (us := Fc.cells ga) U_ l_ rfl (fun v _ h => by exact h.2.2.1) (Fc.cells_len _) (ar_ Fc.cells_len (show [ga][0]? = some _ from rfl))) rfl (m_ rfl (h_ j_ rfl rfl rfl l_) rfl (m_ rfl (h_ o_ rfl rfl rfl y_) rfl (m_ rfl (n_ 0 H_ rfl rfl rfl) rfl (m_ rfl (h_ j_ rfl rfl rfl ay_) rfl (m_ rfl (h_ R_ rfl rfl rfl y_) rfl ?_)))))))))
  refine m_ rfl (n_ 0 H_ rfl rfl rfl) rfl (O_ (L_ 10 rfl (by kernel_rfl) (K_ (bO_ (Fc.a f) (Pc.a x)) rfl x_ (fun _ _ _ => by exact trivial) rfl fun _ => ?_)))
  refine d_ (p_ rfl (D_ (fun _ a b => ⟨a, b⟩) (P_ 12 [11, 12] (by kernel_rfl) (fun _ a b => ⟨a, b⟩) ?_)))
  refine bJ_ rfl (av_ (p := ga) (q := (aL_ (Fc.a f) (Pc.a x))) rfl rfl) rfl fun r1 hr1 => ?_
  refine m_ rfl (f_ rfl) rfl (O_ ?_)
  cases r1
  · skip
    replace hr1 := of_decide_eq_false hr1
    refine P_ 0 [13, 14, 15, 16, 17, 18, 19, 20, 21, 22, 23, 24] (by kernel_rfl) (fun _ a b => ⟨a, b⟩) (z_ rfl rfl rfl rfl rfl (z_ rfl rfl rfl rfl rfl (z_ rfl rfl rfl rfl rfl (z_ rfl rfl rfl rfl rfl (z_ rfl rfl rfl rfl rfl (z_ rfl rfl rfl rfl rfl (z_ rfl rfl rfl rfl rfl (z_ rfl rfl rfl rfl rfl (z_ rfl rfl rfl rfl rfl ?_)))))))))
    refine z_ rfl rfl rfl rfl rfl (m_ rfl (t_ rfl rfl) rfl (m_ rfl (e_ rfl) rfl (O_ (T_ (by kernel_rfl) (b_ rfl (u_ ?_))))))
    exact Y_ Tryz.results131 () (s_ rfl (by have p1 := eq_false hr1; simp only [pF_, p1, if_true, if_false, decide_true, decide_false, Bool.and_true, Bool.and_false, Bool.true_and, Bool.false_and, Bool.or_true, Bool.or_false, Bool.true_or, Bool.false_or, Bool.not_true, Bool.not_false, ne_eq, not_true_eq_false, not_false_eq_true, true_and, and_true, false_and, and_false, true_or, or_true, false_or, or_false, ite_true, ite_false, Bool.false_eq_true])) x_ (fun _ _ _ => trivial)
  · skip
    replace hr1 := of_decide_eq_true hr1
    refine P_ 4 [13, 14, 15, 16, 17, 18, 19, 20] (by kernel_rfl) (fun _ a b => ⟨a, b⟩) (r_ rfl rfl rfl (h_ j_ rfl rfl rfl l_) rfl (r_ rfl rfl rfl (M_ 0 U_ l_ rfl rfl rfl) rfl (r_ rfl rfl rfl (h_ j_ rfl rfl rfl l_) rfl (r_ rfl rfl rfl (h_ o_ rfl rfl rfl y_) rfl (r_ rfl rfl rfl (n_ 0 H_ rfl rfl rfl) rfl (r_ rfl rfl rfl (h_ j_ rfl rfl rfl ay_) rfl (r_ rfl rfl rfl (h_ R_ rfl rfl rfl y_) rfl (r_ rfl rfl rfl (n_ 0 H_ rfl rfl rfl) rfl (O_ ?_)))))))))
    refine L_ 21 rfl (by kernel_rfl) (i_ rfl rfl (K_ (bO_ (Fc.a f) (Pc.c x)) rfl x_ (fun _ _ _ => by exact trivial) rfl fun _ => ?_))
    refine d_ (p_ rfl (D_ (fun _ a b => ⟨a, b⟩) (P_ 0 [22, 23, 24] (by kernel_rfl) (fun _ a b => ⟨a, b⟩) ?_)))
    refine az_ rfl rfl rfl (av_ (p := f) (q := (aL_ (Fc.a f) (Pc.c x))) rfl rfl) rfl fun r2 hr2 => ?_
    refine m_ rfl (v_ rfl rfl) rfl (m_ rfl (e_ rfl) rfl (O_ (T_ (by kernel_rfl) (b_ rfl (u_ ?_)))))
    exact Y_ Tryz.results131 () (s_ rfl (by have p1 := eq_true hr1; rw [← hr2]; simp only [pF_, p1, if_true, if_false, decide_true, decide_false, Bool.and_true, Bool.and_false, Bool.true_and, Bool.false_and, Bool.or_true, Bool.or_false, Bool.true_or, Bool.false_or, Bool.not_true, Bool.not_false, ne_eq, not_true_eq_false, not_false_eq_true, true_and, and_true, false_and, and_false, true_or, or_true, false_or, or_false, ite_true, ite_false, Bool.false_eq_true])) x_ (fun _ _ _ => trivial)
set_option maxHeartbeats 1000000 in
theorem pu_ (kn : Str → Bool) (q : List Str) (hkn : ∀ s, kn s = true ↔ s ∈ q) (es : Array MapEntry) (ec : Nat) (hE : SetE str es q) (vb ab : Nat) (pv fv : Value) (x : Pc) (f ga gb : Fc) (lad : Option Addr) (lcap : Nat) : Tri Tryz.prog 132 #[.agg #[zp_ vb 0, .int .i64 (Fc.kind f), str (Fc.a f), str (Fc.b f), str (Fc.r f), .int .i64 (Fc.lo f), .int .i64 (Fc.hi f), .slice lad (List.length [ga, gb]) lcap, .int .i64 (Pc.kind x), str (Pc.a x), str (Pc.b x), str (Pc.c x), str (Pc.r x), str (Pc.s x), str (Pc.t x), .int .i64 (Pc.lo x), .int .i64 (Pc.hi x), .int .i64 (Pc.frm x)]] [] [cp_ vb (.cells (dc_ pv ab fv).toArray 83 (0, 0)), cp_ ab (.map es ec), aY_ lad (List.flatMap Fc.cells [ga, gb])] (fun _ : Unit => .bool (ou_ kn x f ga gb)) (fun _ => []) (fun _ => []) := by
 refine S_ Tryz.func132 rfl rfl Tryz.ntmps132 rfl fun v0 => ?_
 refine g_ (c_ (aM_ rfl rfl fun b1 => ?_))
 refine a_ (e_ rfl) rfl (d_ (b_ rfl (g_ ?_)))
 refine aW_ (by kernel_rfl) ?_
 refine P_ 29 [0, 1, 2, 3, 4, 5, 6, 7, 8, 9] (by kernel_rfl) (fun _ a b => ⟨a, b⟩) (m_ rfl (h_ j_ rfl rfl rfl aN_) rfl (m_ rfl (n_ 0 bn_ rfl rfl rfl) rfl (m_ rfl (an_ ai_ l_ rfl rfl (fun v _ h => ba_ (n := 6) Fc.cells_len (by decide) (by exact h.2.2.1) (show [ga, gb][0]? = some _ from rfl)) (by omega) (by first | omega | (simp; done))) rfl (m_ rfl (aX_ (ad := lad) (us := Fc.cells ga) U_ l_ rfl (fun v _ h => by exact h.2.2.1) (Fc.cells_len _) (ar_ Fc.cells_len (show [ga, gb][0]? = some _ from rfl))) rfl (m_ rfl (h_ j_ rfl rfl rfl l_) rfl (m_ rfl (h_ o_ rfl rfl rfl y_) rfl (m_ rfl (n_ 0 H_ rfl rfl rfl) rfl (m_ rfl (h_ j_ rfl rfl rfl ay_) rfl (m_ rfl (h_ R_ rfl rfl rfl y_) rfl ?_)))))))))
 refine m_ rfl (n_ 0 H_ rfl rfl rfl) rfl (O_ (L_ 10 rfl (by kernel_rfl) (K_ (bO_ (Fc.a f) (Pc.a x)) rfl x_ (fun _ _ _ => by exact trivial) rfl fun _ => ?_)))
 refine d_ (p_ rfl (D_ (fun _ a b => ⟨a, b⟩) (P_ 26 [11, 12] (by kernel_rfl) (fun _ a b => ⟨a, b⟩) ?_)))
 refine bJ_ rfl (av_ (p := ga) (q := (aL_ (Fc.a f) (Pc.a x))) rfl rfl) rfl fun r1 hr1 => ?_
 refine m_ rfl (f_ rfl) rfl (O_ ?_)
 cases r1
 ·
  replace hr1 := of_decide_eq_false hr1
  refine P_ 0 [13, 14, 15, 16, 17, 18, 19, 20, 21, 22, 23, 24, 25, 26, 27, 28, 29, 30, 31, 32, 33, 34, 35, 36, 37, 38] (by kernel_rfl) (fun _ a b => ⟨a, b⟩) (z_ rfl rfl rfl rfl rfl (z_ rfl rfl rfl rfl rfl (z_ rfl rfl rfl rfl rfl (z_ rfl rfl rfl rfl rfl (z_ rfl rfl rfl rfl rfl (z_ rfl rfl rfl rfl rfl (z_ rfl rfl rfl rfl rfl (z_ rfl rfl rfl rfl rfl (z_ rfl rfl rfl rfl rfl ?_)))))))))
  refine z_ rfl rfl rfl rfl rfl (z_ rfl rfl rfl rfl rfl (z_ rfl rfl rfl rfl rfl (m_ rfl (t_ rfl rfl) rfl (m_ rfl (f_ rfl) rfl (z_ rfl rfl rfl rfl rfl (z_ rfl rfl rfl rfl rfl (z_ rfl rfl rfl rfl rfl (z_ rfl rfl rfl rfl rfl (z_ rfl rfl rfl rfl rfl ?_)))))))))
  refine z_ rfl rfl rfl rfl rfl (z_ rfl rfl rfl rfl rfl (z_ rfl rfl rfl rfl rfl (z_ rfl rfl rfl rfl rfl (z_ rfl rfl rfl rfl rfl (m_ rfl (t_ rfl rfl) rfl (m_ rfl (e_ rfl) rfl (O_ (T_ (by kernel_rfl) (b_ rfl ?_)))))))))
  refine u_ ?_
  exact Y_ Tryz.results132 () (s_ rfl (by have p1 := eq_false hr1; simp only [ou_, p1, if_true, if_false, decide_true, decide_false, Bool.and_true, Bool.and_false, Bool.true_and, Bool.false_and, Bool.or_true, Bool.or_false, Bool.true_or, Bool.false_or, Bool.not_true, Bool.not_false, ne_eq, not_true_eq_false, not_false_eq_true, true_and, and_true, false_and, and_false, true_or, or_true, false_or, or_false, ite_true, ite_false, Bool.false_eq_true])) x_ (fun _ _ _ => trivial)
 ·
  replace hr1 := of_decide_eq_true hr1
  refine P_ 16 [13, 14, 15, 16, 17, 18, 19, 20, 21, 22] (by kernel_rfl) (fun _ a b => ⟨a, b⟩) (r_ rfl rfl rfl (h_ j_ rfl rfl rfl aN_) rfl (r_ rfl rfl rfl (n_ 0 bn_ rfl rfl rfl) rfl (r_ rfl rfl rfl (an_ ai_ l_ rfl rfl (fun v _ h => ba_ (n := 6) Fc.cells_len (by decide) (by exact h.2.2.1) (show [ga, gb][1]? = some _ from rfl)) (by omega) (by first | omega | (simp; done))) rfl (r_ rfl rfl rfl (aX_ (ad := lad) (us := Fc.cells gb) U_ l_ rfl (fun v _ h => by exact h.2.2.1) (Fc.cells_len _) (ar_ Fc.cells_len (show [ga, gb][1]? = some _ from rfl))) rfl (r_ rfl rfl rfl (h_ j_ rfl rfl rfl l_) rfl (r_ rfl rfl rfl (h_ o_ rfl rfl rfl y_) rfl (r_ rfl rfl rfl (n_ 0 H_ rfl rfl rfl) rfl (r_ rfl rfl rfl (h_ j_ rfl rfl rfl ay_) rfl (r_ rfl rfl rfl (h_ R_ rfl rfl rfl y_) rfl ?_)))))))))
  refine r_ rfl rfl rfl (n_ 0 H_ rfl rfl rfl) rfl (O_ (L_ 23 rfl (by kernel_rfl) (i_ rfl rfl (K_ (bO_ (Fc.a f) (Pc.b x)) rfl x_ (fun _ _ _ => by exact trivial) rfl fun _ => ?_))))
  refine d_ (p_ rfl (D_ (fun _ a b => ⟨a, b⟩) (P_ 12 [24, 25, 26] (by kernel_rfl) (fun _ a b => ⟨a, b⟩) ?_)))
  refine az_ rfl rfl rfl (av_ (p := gb) (q := (aL_ (Fc.a f) (Pc.b x))) rfl rfl) rfl fun r2 hr2 => ?_
  refine m_ rfl (v_ rfl rfl) rfl (m_ rfl (f_ rfl) rfl (O_ ?_))
  cases r2
  ·
   replace hr2 := of_decide_eq_false hr2
   refine P_ 0 [27, 28, 29, 30, 31, 32, 33, 34, 35, 36, 37, 38] (by kernel_rfl) (fun _ a b => ⟨a, b⟩) (z_ rfl rfl rfl rfl rfl (z_ rfl rfl rfl rfl rfl (z_ rfl rfl rfl rfl rfl (z_ rfl rfl rfl rfl rfl (z_ rfl rfl rfl rfl rfl (z_ rfl rfl rfl rfl rfl (z_ rfl rfl rfl rfl rfl (z_ rfl rfl rfl rfl rfl (z_ rfl rfl rfl rfl rfl ?_)))))))))
   refine z_ rfl rfl rfl rfl rfl (m_ rfl (t_ rfl rfl) rfl (m_ rfl (e_ rfl) rfl (O_ (T_ (by kernel_rfl) (b_ rfl (u_ ?_))))))
   exact Y_ Tryz.results132 () (s_ rfl (by have p1 := eq_true hr1; have p2 := eq_false hr2; simp only [ou_, p1, p2, if_true, if_false, decide_true, decide_false, Bool.and_true, Bool.and_false, Bool.true_and, Bool.false_and, Bool.or_true, Bool.or_false, Bool.true_or, Bool.false_or, Bool.not_true, Bool.not_false, ne_eq, not_true_eq_false, not_false_eq_true, true_and, and_true, false_and, and_false, true_or, or_true, false_or, or_false, ite_true, ite_false, Bool.false_eq_true])) x_ (fun _ _ _ => trivial)
  ·
   replace hr2 := of_decide_eq_true hr2
   refine P_ 4 [27, 28, 29, 30, 31, 32, 33, 34] (by kernel_rfl) (fun _ a b => ⟨a, b⟩) (r_ rfl rfl rfl (h_ j_ rfl rfl rfl l_) rfl (r_ rfl rfl rfl (M_ 0 U_ l_ rfl rfl rfl) rfl (r_ rfl rfl rfl (h_ j_ rfl rfl rfl l_) rfl (r_ rfl rfl rfl (h_ o_ rfl rfl rfl y_) rfl (r_ rfl rfl rfl (n_ 0 H_ rfl rfl rfl) rfl (r_ rfl rfl rfl (h_ j_ rfl rfl rfl ay_) rfl (r_ rfl rfl rfl (h_ R_ rfl rfl rfl y_) rfl (r_ rfl rfl rfl (n_ 0 H_ rfl rfl rfl) rfl (O_ ?_)))))))))
   refine L_ 35 rfl (by kernel_rfl) (i_ rfl rfl (K_ (bO_ (Fc.a f) (Pc.c x)) rfl x_ (fun _ _ _ => by exact trivial) rfl fun _ => ?_))
   refine d_ (p_ rfl (D_ (fun _ a b => ⟨a, b⟩) (P_ 0 [36, 37, 38] (by kernel_rfl) (fun _ a b => ⟨a, b⟩) ?_)))
   refine az_ rfl rfl rfl (av_ (p := f) (q := (aL_ (Fc.a f) (Pc.c x))) rfl rfl) rfl fun r3 hr3 => ?_
   refine m_ rfl (v_ rfl rfl) rfl (m_ rfl (e_ rfl) rfl (O_ (T_ (by kernel_rfl) (b_ rfl (u_ ?_)))))
   exact Y_ Tryz.results132 () (s_ rfl (by have p1 := eq_true hr1; have p2 := eq_true hr2; rw [← hr3]; simp only [ou_, p1, p2, if_true, if_false, decide_true, decide_false, Bool.and_true, Bool.and_false, Bool.true_and, Bool.false_and, Bool.or_true, Bool.or_false, Bool.true_or, Bool.false_or, Bool.not_true, Bool.not_false, ne_eq, not_true_eq_false, not_false_eq_true, true_and, and_true, false_and, and_false, true_or, or_true, false_or, or_false, ite_true, ite_false, Bool.false_eq_true])) x_ (fun _ _ _ => trivial)
set_option maxHeartbeats 1000000 in
theorem pt_ (kn : Str → Bool) (q : List Str) (hkn : ∀ s, kn s = true ↔ s ∈ q) (es : Array MapEntry) (ec : Nat) (hE : SetE str es q) (vb ab : Nat) (pv fv : Value) (x : Pc) (f ga : Fc) (lad : Option Addr) (lcap : Nat) : Tri Tryz.prog 133 #[.agg #[zp_ vb 0, .int .i64 (Fc.kind f), str (Fc.a f), str (Fc.b f), str (Fc.r f), .int .i64 (Fc.lo f), .int .i64 (Fc.hi f), .slice lad (List.length [ga]) lcap, .int .i64 (Pc.kind x), str (Pc.a x), str (Pc.b x), str (Pc.c x), str (Pc.r x), str (Pc.s x), str (Pc.t x), .int .i64 (Pc.lo x), .int .i64 (Pc.hi x), .int .i64 (Pc.frm x)]] [] [cp_ vb (.cells (dc_ pv ab fv).toArray 83 (0, 0)), cp_ ab (.map es ec), aY_ lad (List.flatMap Fc.cells [ga])] (fun _ : Unit => .bool (pE_ kn x f ga zfc)) (fun _ => []) (fun _ => []) := by
  refine S_ Tryz.func133 rfl rfl Tryz.ntmps133 rfl fun v0 => ?_
  refine g_ (c_ (aM_ rfl rfl fun b1 => ?_))
  refine a_ (e_ rfl) rfl (d_ (b_ rfl (g_ ?_)))
  refine aW_ (by kernel_rfl) ?_
  refine P_ 18 [0, 1, 2, 3, 4, 5, 6, 7, 8, 9] (by kernel_rfl) (fun _ a b => ⟨a, b⟩) (m_ rfl (h_ j_ rfl rfl rfl aN_) rfl (m_ rfl (n_ 0 bn_ rfl rfl rfl) rfl (m_ rfl (an_ ai_ l_ rfl rfl (fun v _ h => ba_ (n := 6) Fc.cells_len (by decide) (by exact h.2.2.1) (show [ga][0]? = some _ from rfl)) (by omega) (by first | omega | (simp; done))) rfl (m_ rfl (aX_ (ad := lad) (us := Fc.cells ga) U_ l_ rfl (fun v _ h => by exact h.2.2.1) (Fc.cells_len _) (ar_ Fc.cells_len (show [ga][0]? = some _ from rfl))) rfl (m_ rfl (h_ j_ rfl rfl rfl l_) rfl (m_ rfl (h_ o_ rfl rfl rfl y_) rfl (m_ rfl (n_ 0 H_ rfl rfl rfl) rfl (m_ rfl (h_ j_ rfl rfl rfl ay_) rfl (m_ rfl (h_ R_ rfl rfl rfl y_) rfl ?_)))))))))
  refine m_ rfl (n_ 0 H_ rfl rfl rfl) rfl (O_ (L_ 10 rfl (by kernel_rfl) (K_ (bO_ (Fc.a f) (Pc.a x)) rfl x_ (fun _ _ _ => by exact trivial) rfl fun _ => ?_)))
  refine d_ (p_ rfl (D_ (fun _ a b => ⟨a, b⟩) (P_ 15 [11, 12] (by kernel_rfl) (fun _ a b => ⟨a, b⟩) ?_)))
  refine bJ_ rfl (av_ (p := ga) (q := (aL_ (Fc.a f) (Pc.a x))) rfl rfl) rfl fun r1 hr1 => ?_
  refine m_ rfl (f_ rfl) rfl (O_ ?_)
  cases r1
  · skip
    replace hr1 := of_decide_eq_false hr1
    refine P_ 0 [13, 14, 15, 16, 17, 18, 19, 20, 21, 22, 23, 24, 25, 26, 27] (by kernel_rfl) (fun _ a b => ⟨a, b⟩) (z_ rfl rfl rfl rfl rfl (z_ rfl rfl rfl rfl rfl (z_ rfl rfl rfl rfl rfl (z_ rfl rfl rfl rfl rfl (z_ rfl rfl rfl rfl rfl (z_ rfl rfl rfl rfl rfl (z_ rfl rfl rfl rfl rfl (z_ rfl rfl rfl rfl rfl (z_ rfl rfl rfl rfl rfl ?_)))))))))
    refine z_ rfl rfl rfl rfl rfl (z_ rfl rfl rfl rfl rfl (z_ rfl rfl rfl rfl rfl (z_ rfl rfl rfl rfl rfl (m_ rfl (t_ rfl rfl) rfl (m_ rfl (e_ rfl) rfl (O_ (T_ (by kernel_rfl) (b_ rfl (u_ ?_)))))))))
    exact Y_ Tryz.results133 () (s_ rfl (by have p1 := eq_false hr1; simp only [pE_, p1, if_true, if_false, decide_true, decide_false, Bool.and_true, Bool.and_false, Bool.true_and, Bool.false_and, Bool.or_true, Bool.or_false, Bool.true_or, Bool.false_or, Bool.not_true, Bool.not_false, ne_eq, not_true_eq_false, not_false_eq_true, true_and, and_true, false_and, and_false, true_or, or_true, false_or, or_false, ite_true, ite_false, Bool.false_eq_true])) x_ (fun _ _ _ => trivial)
  · skip
    replace hr1 := of_decide_eq_true hr1
    refine P_ 4 [13, 14, 15, 16, 17, 18, 19, 20, 21, 22, 23] (by kernel_rfl) (fun _ a b => ⟨a, b⟩) (r_ rfl rfl rfl (h_ j_ rfl rfl rfl l_) rfl (r_ rfl rfl rfl (M_ 0 U_ l_ rfl rfl rfl) rfl (r_ rfl rfl rfl (h_ j_ rfl rfl rfl l_) rfl (r_ rfl rfl rfl (h_ o_ rfl rfl rfl y_) rfl (r_ rfl rfl rfl (n_ 0 H_ rfl rfl rfl) rfl (r_ rfl rfl rfl (h_ j_ rfl rfl rfl ay_) rfl (r_ rfl rfl rfl (h_ R_ rfl rfl rfl y_) rfl (r_ rfl rfl rfl (n_ 0 H_ rfl rfl rfl) rfl (r_ rfl rfl rfl (h_ j_ rfl rfl rfl ay_) rfl ?_)))))))))
    refine r_ rfl rfl rfl (h_ R_ rfl rfl rfl y_) rfl (r_ rfl rfl rfl (n_ 0 H_ rfl rfl rfl) rfl (O_ (L_ 24 rfl (by kernel_rfl) (i_ rfl rfl (K_ (ea_ (Fc.a f) (Pc.r x) (Pc.c x)) rfl x_ (fun _ _ _ => by exact trivial) rfl fun _ => ?_)))))
    refine d_ (p_ rfl (D_ (fun _ a b => ⟨a, b⟩) (P_ 0 [25, 26, 27] (by kernel_rfl) (fun _ a b => ⟨a, b⟩) ?_)))
    refine az_ rfl rfl rfl (av_ (p := f) (q := (bI_ (Fc.a f) (Pc.r x) (Pc.c x))) rfl rfl) rfl fun r2 hr2 => ?_
    refine m_ rfl (v_ rfl rfl) rfl (m_ rfl (e_ rfl) rfl (O_ (T_ (by kernel_rfl) (b_ rfl (u_ ?_)))))
    exact Y_ Tryz.results133 () (s_ rfl (by have p1 := eq_true hr1; rw [← hr2]; simp only [pE_, p1, if_true, if_false, decide_true, decide_false, Bool.and_true, Bool.and_false, Bool.true_and, Bool.false_and, Bool.or_true, Bool.or_false, Bool.true_or, Bool.false_or, Bool.not_true, Bool.not_false, ne_eq, not_true_eq_false, not_false_eq_true, true_and, and_true, false_and, and_false, true_or, or_true, false_or, or_false, ite_true, ite_false, Bool.false_eq_true])) x_ (fun _ _ _ => trivial)
set_option maxHeartbeats 1000000 in
theorem ps_ (kn : Str → Bool) (q : List Str) (hkn : ∀ s, kn s = true ↔ s ∈ q) (es : Array MapEntry) (ec : Nat) (hE : SetE str es q) (vb ab : Nat) (pv fv : Value) (x : Pc) (f ga : Fc) (lad : Option Addr) (lcap : Nat) : Tri Tryz.prog 135 #[.agg #[zp_ vb 0, .int .i64 (Fc.kind f), str (Fc.a f), str (Fc.b f), str (Fc.r f), .int .i64 (Fc.lo f), .int .i64 (Fc.hi f), .slice lad (List.length [ga]) lcap, .int .i64 (Pc.kind x), str (Pc.a x), str (Pc.b x), str (Pc.c x), str (Pc.r x), str (Pc.s x), str (Pc.t x), .int .i64 (Pc.lo x), .int .i64 (Pc.hi x), .int .i64 (Pc.frm x)]] [] [cp_ vb (.cells (dc_ pv ab fv).toArray 83 (0, 0)), cp_ ab (.map es ec), aY_ lad (List.flatMap Fc.cells [ga])] (fun _ : Unit => .bool (pD_ kn x f ga zfc)) (fun _ => []) (fun _ => []) := by
  refine S_ Tryz.func135 rfl rfl Tryz.ntmps135 rfl fun v0 => ?_
  refine g_ (c_ (aM_ rfl rfl fun b1 => ?_))
  refine a_ (e_ rfl) rfl (d_ (b_ rfl (g_ ?_)))
  refine aW_ (by kernel_rfl) ?_
  refine P_ 18 [0, 1, 2, 3, 4, 5, 6, 7, 8, 9, 10, 11, 12] (by kernel_rfl) (fun _ a b => ⟨a, b⟩) (m_ rfl (h_ j_ rfl rfl rfl aN_) rfl (m_ rfl (n_ 0 bn_ rfl rfl rfl) rfl (m_ rfl (an_ ai_ l_ rfl rfl (fun v _ h => ba_ (n := 6) Fc.cells_len (by decide) (by exact h.2.2.1) (show [ga][0]? = some _ from rfl)) (by omega) (by first | omega | (simp; done))) rfl (m_ rfl (aX_ (ad := lad) (us := Fc.cells ga) U_ l_ rfl (fun v _ h => by exact h.2.2.1) (Fc.cells_len _) (ar_ Fc.cells_len (show [ga][0]? = some _ from rfl))) rfl (m_ rfl (h_ j_ rfl rfl rfl l_) rfl (m_ rfl (h_ o_ rfl rfl rfl y_) rfl (m_ rfl (n_ 0 H_ rfl rfl rfl) rfl (m_ rfl (h_ j_ rfl rfl rfl ay_) rfl (m_ rfl (h_ R_ rfl rfl rfl y_) rfl ?_)))))))))
  refine m_ rfl (n_ 0 H_ rfl rfl rfl) rfl (m_ rfl (h_ j_ rfl rfl rfl l_) rfl (m_ rfl (h_ o_ rfl rfl rfl y_) rfl (m_ rfl (n_ 0 H_ rfl rfl rfl) rfl (O_ (L_ 13 rfl (by kernel_rfl) (K_ (ea_ (Fc.a f) (Pc.r x) (Fc.b f)) rfl x_ (fun _ _ _ => by exact trivial) rfl fun _ => ?_))))))
  refine d_ (p_ rfl (D_ (fun _ a b => ⟨a, b⟩) (P_ 15 [14, 15] (by kernel_rfl) (fun _ a b => ⟨a, b⟩) ?_)))
  refine bJ_ rfl (av_ (p := ga) (q := (bI_ (Fc.a f) (Pc.r x) (Fc.b f))) rfl rfl) rfl fun r1 hr1 => ?_
  refine m_ rfl (f_ rfl) rfl (O_ ?_)
  cases r1
  · skip
    replace hr1 := of_decide_eq_false hr1
    refine P_ 0 [16, 17, 18, 19, 20, 21, 22, 23, 24, 25, 26, 27, 28, 29, 30] (by kernel_rfl) (fun _ a b => ⟨a, b⟩) (z_ rfl rfl rfl rfl rfl (z_ rfl rfl rfl rfl rfl (z_ rfl rfl rfl rfl rfl (z_ rfl rfl rfl rfl rfl (z_ rfl rfl rfl rfl rfl (z_ rfl rfl rfl rfl rfl (z_ rfl rfl rfl rfl rfl (z_ rfl rfl rfl rfl rfl (z_ rfl rfl rfl rfl rfl ?_)))))))))
    refine z_ rfl rfl rfl rfl rfl (z_ rfl rfl rfl rfl rfl (z_ rfl rfl rfl rfl rfl (z_ rfl rfl rfl rfl rfl (m_ rfl (t_ rfl rfl) rfl (m_ rfl (e_ rfl) rfl (O_ (T_ (by kernel_rfl) (b_ rfl (u_ ?_)))))))))
    exact Y_ Tryz.results135 () (s_ rfl (by have p1 := eq_false hr1; simp only [pD_, p1, if_true, if_false, decide_true, decide_false, Bool.and_true, Bool.and_false, Bool.true_and, Bool.false_and, Bool.or_true, Bool.or_false, Bool.true_or, Bool.false_or, Bool.not_true, Bool.not_false, ne_eq, not_true_eq_false, not_false_eq_true, true_and, and_true, false_and, and_false, true_or, or_true, false_or, or_false, ite_true, ite_false, Bool.false_eq_true])) x_ (fun _ _ _ => trivial)
  · skip
    replace hr1 := of_decide_eq_true hr1
    refine P_ 4 [16, 17, 18, 19, 20, 21, 22, 23, 24, 25, 26] (by kernel_rfl) (fun _ a b => ⟨a, b⟩) (r_ rfl rfl rfl (h_ j_ rfl rfl rfl l_) rfl (r_ rfl rfl rfl (M_ 0 U_ l_ rfl rfl rfl) rfl (r_ rfl rfl rfl (h_ j_ rfl rfl rfl l_) rfl (r_ rfl rfl rfl (h_ o_ rfl rfl rfl y_) rfl (r_ rfl rfl rfl (n_ 0 H_ rfl rfl rfl) rfl (r_ rfl rfl rfl (h_ j_ rfl rfl rfl ay_) rfl (r_ rfl rfl rfl (h_ R_ rfl rfl rfl y_) rfl (r_ rfl rfl rfl (n_ 0 H_ rfl rfl rfl) rfl (r_ rfl rfl rfl (h_ j_ rfl rfl rfl l_) rfl ?_)))))))))
    refine r_ rfl rfl rfl (h_ o_ rfl rfl rfl y_) rfl (r_ rfl rfl rfl (n_ 0 H_ rfl rfl rfl) rfl (O_ (L_ 27 rfl (by kernel_rfl) (i_ rfl rfl (K_ (ea_ (Fc.a f) (Pc.t x) (Fc.b f)) rfl x_ (fun _ _ _ => by exact trivial) rfl fun _ => ?_)))))
    refine d_ (p_ rfl (D_ (fun _ a b => ⟨a, b⟩) (P_ 0 [28, 29, 30] (by kernel_rfl) (fun _ a b => ⟨a, b⟩) ?_)))
    refine az_ rfl rfl rfl (av_ (p := f) (q := (bI_ (Fc.a f) (Pc.t x) (Fc.b f))) rfl rfl) rfl fun r2 hr2 => ?_
    refine m_ rfl (v_ rfl rfl) rfl (m_ rfl (e_ rfl) rfl (O_ (T_ (by kernel_rfl) (b_ rfl (u_ ?_)))))
    exact Y_ Tryz.results135 () (s_ rfl (by have p1 := eq_true hr1; rw [← hr2]; simp only [pD_, p1, if_true, if_false, decide_true, decide_false, Bool.and_true, Bool.and_false, Bool.true_and, Bool.false_and, Bool.or_true, Bool.or_false, Bool.true_or, Bool.false_or, Bool.not_true, Bool.not_false, ne_eq, not_true_eq_false, not_false_eq_true, true_and, and_true, false_and, and_false, true_or, or_true, false_or, or_false, ite_true, ite_false, Bool.false_eq_true])) x_ (fun _ _ _ => trivial)
set_option maxHeartbeats 1000000 in
theorem pr_ (kn : Str → Bool) (q : List Str) (hkn : ∀ s, kn s = true ↔ s ∈ q) (es : Array MapEntry) (ec : Nat) (hE : SetE str es q) (vb ab : Nat) (pv fv : Value) (x : Pc) (f ga gb : Fc) (lad : Option Addr) (lcap : Nat) : Tri Tryz.prog 136 #[.agg #[zp_ vb 0, .int .i64 (Fc.kind f), str (Fc.a f), str (Fc.b f), str (Fc.r f), .int .i64 (Fc.lo f), .int .i64 (Fc.hi f), .slice lad (List.length [ga, gb]) lcap, .int .i64 (Pc.kind x), str (Pc.a x), str (Pc.b x), str (Pc.c x), str (Pc.r x), str (Pc.s x), str (Pc.t x), .int .i64 (Pc.lo x), .int .i64 (Pc.hi x), .int .i64 (Pc.frm x)]] [] [cp_ vb (.cells (dc_ pv ab fv).toArray 83 (0, 0)), cp_ ab (.map es ec), aY_ lad (List.flatMap Fc.cells [ga, gb])] (fun _ : Unit => .bool (ot_ kn x f ga gb)) (fun _ => []) (fun _ => []) := by
 refine S_ Tryz.func136 rfl rfl Tryz.ntmps136 rfl fun v0 => ?_
 refine g_ (c_ (aM_ rfl rfl fun b1 => ?_))
 refine a_ (e_ rfl) rfl (d_ (b_ rfl (g_ (c_ (a_ (h_ j_ rfl rfl rfl aN_) rfl (a_ (n_ 0 bn_ rfl rfl rfl) rfl (a_ (an_ ai_ l_ rfl rfl (fun v _ h => ba_ (n := 6) Fc.cells_len (by decide) (by exact h.2.2.1) (show [ga, gb][0]? = some _ from rfl)) (by omega) (by first | omega | (simp; done))) rfl (a_ (do_ o_ rfl rfl rfl y_) rfl (a_ (bE_ (ad := lad) H_ rfl (fun v _ h => by exact h.2.2.1) (ar_ Fc.cells_len (show [ga, gb][0]? = some _ from rfl) 2 _ rfl)) rfl ?_)))))))))
 refine a_ (e_ rfl) rfl (d_ (b_ rfl (g_ ?_)))
 refine aW_ (by kernel_rfl) ?_
 refine P_ 33 [0, 1, 2, 3, 4, 5, 6, 7, 8, 9, 10] (by kernel_rfl) (fun _ a b => ⟨a, b⟩) (m_ rfl (h_ j_ rfl rfl rfl aN_) rfl (m_ rfl (n_ 0 bn_ rfl rfl rfl) rfl (m_ rfl (an_ ai_ l_ rfl rfl (fun v _ h => ba_ (n := 6) Fc.cells_len (by decide) (by exact h.2.2.1) (show [ga, gb][0]? = some _ from rfl)) (by omega) (by first | omega | (simp; done))) rfl (m_ rfl (aX_ (ad := lad) (us := Fc.cells ga) U_ l_ rfl (fun v _ h => by exact h.2.2.1) (Fc.cells_len _) (ar_ Fc.cells_len (show [ga, gb][0]? = some _ from rfl))) rfl (m_ rfl (h_ j_ rfl rfl rfl l_) rfl (m_ rfl (h_ o_ rfl rfl rfl y_) rfl (m_ rfl (n_ 0 H_ rfl rfl rfl) rfl (m_ rfl (h_ j_ rfl rfl rfl ay_) rfl (m_ rfl (h_ R_ rfl rfl rfl y_) rfl ?_)))))))))
 refine m_ rfl (n_ 0 H_ rfl rfl rfl) rfl (m_ rfl (f_ rfl) rfl (O_ (L_ 11 rfl (by kernel_rfl) (K_ (ea_ (Fc.a f) (Pc.r x) (Fc.b ga)) rfl x_ (fun _ _ _ => by exact trivial) rfl fun _ => ?_))))
 refine d_ (p_ rfl (D_ (fun _ a b => ⟨a, b⟩) (P_ 30 [12, 13] (by kernel_rfl) (fun _ a b => ⟨a, b⟩) ?_)))
 refine bJ_ rfl (av_ (p := ga) (q := (bI_ (Fc.a f) (Pc.r x) (Fc.b ga))) rfl rfl) rfl fun r1 hr1 => ?_
 refine m_ rfl (f_ rfl) rfl (O_ ?_)
 cases r1
 ·
  replace hr1 := of_decide_eq_false hr1
  refine P_ 0 [14, 15, 16, 17, 18, 19, 20, 21, 22, 23, 24, 25, 26, 27, 28, 29, 30, 31, 32, 33, 34, 35, 36, 37, 38, 39, 40, 41, 42, 43] (by kernel_rfl) (fun _ a b => ⟨a, b⟩) (z_ rfl rfl rfl rfl rfl (z_ rfl rfl rfl rfl rfl (z_ rfl rfl rfl rfl rfl (z_ rfl rfl rfl rfl rfl (z_ rfl rfl rfl rfl rfl (z_ rfl rfl rfl rfl rfl (z_ rfl rfl rfl rfl rfl (z_ rfl rfl rfl rfl rfl (z_ rfl rfl rfl rfl rfl ?_)))))))))
  refine z_ rfl rfl rfl rfl rfl (z_ rfl rfl rfl rfl rfl (z_ rfl rfl rfl rfl rfl (z_ rfl rfl rfl rfl rfl (m_ rfl (t_ rfl rfl) rfl (m_ rfl (f_ rfl) rfl (z_ rfl rfl rfl rfl rfl (z_ rfl rfl rfl rfl rfl (z_ rfl rfl rfl rfl rfl (z_ rfl rfl rfl rfl rfl ?_)))))))))
  refine z_ rfl rfl rfl rfl rfl (z_ rfl rfl rfl rfl rfl (z_ rfl rfl rfl rfl rfl (z_ rfl rfl rfl rfl rfl (z_ rfl rfl rfl rfl rfl (z_ rfl rfl rfl rfl rfl (z_ rfl rfl rfl rfl rfl (z_ rfl rfl rfl rfl rfl (z_ rfl rfl rfl rfl rfl (m_ rfl (t_ rfl rfl) rfl ?_)))))))))
  refine m_ rfl (e_ rfl) rfl (O_ (T_ (by kernel_rfl) (b_ rfl (u_ ?_))))
  exact Y_ Tryz.results136 () (s_ rfl (by have p1 := eq_false hr1; simp only [ot_, p1, if_true, if_false, decide_true, decide_false, Bool.and_true, Bool.and_false, Bool.true_and, Bool.false_and, Bool.or_true, Bool.or_false, Bool.true_or, Bool.false_or, Bool.not_true, Bool.not_false, ne_eq, not_true_eq_false, not_false_eq_true, true_and, and_true, false_and, and_false, true_or, or_true, false_or, or_false, ite_true, ite_false, Bool.false_eq_true])) x_ (fun _ _ _ => trivial)
 ·
  replace hr1 := of_decide_eq_true hr1
  refine P_ 19 [14, 15, 16, 17, 18, 19, 20, 21, 22, 23, 24] (by kernel_rfl) (fun _ a b => ⟨a, b⟩) (r_ rfl rfl rfl (h_ j_ rfl rfl rfl aN_) rfl (r_ rfl rfl rfl (n_ 0 bn_ rfl rfl rfl) rfl (r_ rfl rfl rfl (an_ ai_ l_ rfl rfl (fun v _ h => ba_ (n := 6) Fc.cells_len (by decide) (by exact h.2.2.1) (show [ga, gb][1]? = some _ from rfl)) (by omega) (by first | omega | (simp; done))) rfl (r_ rfl rfl rfl (aX_ (ad := lad) (us := Fc.cells gb) U_ l_ rfl (fun v _ h => by exact h.2.2.1) (Fc.cells_len _) (ar_ Fc.cells_len (show [ga, gb][1]? = some _ from rfl))) rfl (r_ rfl rfl rfl (f_ rfl) rfl (r_ rfl rfl rfl (h_ j_ rfl rfl rfl ay_) rfl (r_ rfl rfl rfl (h_ R_ rfl rfl rfl y_) rfl (r_ rfl rfl rfl (n_ 0 H_ rfl rfl rfl) rfl (r_ rfl rfl rfl (h_ j_ rfl rfl rfl l_) rfl ?_)))))))))
  refine r_ rfl rfl rfl (h_ o_ rfl rfl rfl y_) rfl (r_ rfl rfl rfl (n_ 0 H_ rfl rfl rfl) rfl (O_ (L_ 25 rfl (by kernel_rfl) (i_ rfl rfl (K_ (ea_ (Fc.b ga) (Pc.s x) (Fc.b f)) rfl x_ (fun _ _ _ => by exact trivial) rfl fun _ => ?_)))))
  refine d_ (p_ rfl (D_ (fun _ a b => ⟨a, b⟩) (P_ 15 [26, 27, 28] (by kernel_rfl) (fun _ a b => ⟨a, b⟩) ?_)))
  refine az_ rfl rfl rfl (av_ (p := gb) (q := (bI_ (Fc.b ga) (Pc.s x) (Fc.b f))) rfl rfl) rfl fun r2 hr2 => ?_
  refine m_ rfl (v_ rfl rfl) rfl (m_ rfl (f_ rfl) rfl (O_ ?_))
  cases r2
  ·
   replace hr2 := of_decide_eq_false hr2
   refine P_ 0 [29, 30, 31, 32, 33, 34, 35, 36, 37, 38, 39, 40, 41, 42, 43] (by kernel_rfl) (fun _ a b => ⟨a, b⟩) (z_ rfl rfl rfl rfl rfl (z_ rfl rfl rfl rfl rfl (z_ rfl rfl rfl rfl rfl (z_ rfl rfl rfl rfl rfl (z_ rfl rfl rfl rfl rfl (z_ rfl rfl rfl rfl rfl (z_ rfl rfl rfl rfl rfl (z_ rfl rfl rfl rfl rfl (z_ rfl rfl rfl rfl rfl ?_)))))))))
   refine z_ rfl rfl rfl rfl rfl (z_ rfl rfl rfl rfl rfl (z_ rfl rfl rfl rfl rfl (z_ rfl rfl rfl rfl rfl (m_ rfl (t_ rfl rfl) rfl (m_ rfl (e_ rfl) rfl (O_ (T_ (by kernel_rfl) (b_ rfl (u_ ?_)))))))))
   exact Y_ Tryz.results136 () (s_ rfl (by have p1 := eq_true hr1; have p2 := eq_false hr2; simp only [ot_, p1, p2, if_true, if_false, decide_true, decide_false, Bool.and_true, Bool.and_false, Bool.true_and, Bool.false_and, Bool.or_true, Bool.or_false, Bool.true_or, Bool.false_or, Bool.not_true, Bool.not_false, ne_eq, not_true_eq_false, not_false_eq_true, true_and, and_true, false_and, and_false, true_or, or_true, false_or, or_false, ite_true, ite_false, Bool.false_eq_true])) x_ (fun _ _ _ => trivial)
  ·
   replace hr2 := of_decide_eq_true hr2
   refine P_ 4 [29, 30, 31, 32, 33, 34, 35, 36, 37, 38, 39] (by kernel_rfl) (fun _ a b => ⟨a, b⟩) (r_ rfl rfl rfl (h_ j_ rfl rfl rfl l_) rfl (r_ rfl rfl rfl (M_ 0 U_ l_ rfl rfl rfl) rfl (r_ rfl rfl rfl (h_ j_ rfl rfl rfl l_) rfl (r_ rfl rfl rfl (h_ o_ rfl rfl rfl y_) rfl (r_ rfl rfl rfl (n_ 0 H_ rfl rfl rfl) rfl (r_ rfl rfl rfl (h_ j_ rfl rfl rfl ay_) rfl (r_ rfl rfl rfl (h_ R_ rfl rfl rfl y_) rfl (r_ rfl rfl rfl (n_ 0 H_ rfl rfl rfl) rfl (r_ rfl rfl rfl (h_ j_ rfl rfl rfl l_) rfl ?_)))))))))
   refine r_ rfl rfl rfl (h_ o_ rfl rfl rfl y_) rfl (r_ rfl rfl rfl (n_ 0 H_ rfl rfl rfl) rfl (O_ (L_ 40 rfl (by kernel_rfl) (i_ rfl rfl (K_ (ea_ (Fc.a f) (Pc.t x) (Fc.b f)) rfl x_ (fun _ _ _ => by exact trivial) rfl fun _ => ?_)))))
   refine d_ (p_ rfl (D_ (fun _ a b => ⟨a, b⟩) (P_ 0 [41, 42, 43] (by kernel_rfl) (fun _ a b => ⟨a, b⟩) ?_)))
   refine az_ rfl rfl rfl (av_ (p := f) (q := (bI_ (Fc.a f) (Pc.t x) (Fc.b f))) rfl rfl) rfl fun r3 hr3 => ?_
   refine m_ rfl (v_ rfl rfl) rfl (m_ rfl (e_ rfl) rfl (O_ (T_ (by kernel_rfl) (b_ rfl (u_ ?_)))))
   exact Y_ Tryz.results136 () (s_ rfl (by have p1 := eq_true hr1; have p2 := eq_true hr2; rw [← hr3]; simp only [ot_, p1, p2, if_true, if_false, decide_true, decide_false, Bool.and_true, Bool.and_false, Bool.true_and, Bool.false_and, Bool.or_true, Bool.or_false, Bool.true_or, Bool.false_or, Bool.not_true, Bool.not_false, ne_eq, not_true_eq_false, not_false_eq_true, true_and, and_true, false_and, and_false, true_or, or_true, false_or, or_false, ite_true, ite_false, Bool.false_eq_true])) x_ (fun _ _ _ => trivial)
set_option maxHeartbeats 1000000 in
theorem pq_ (kn : Str → Bool) (q : List Str) (hkn : ∀ s, kn s = true ↔ s ∈ q) (es : Array MapEntry) (ec : Nat) (hE : SetE str es q) (vb ab : Nat) (pv fv : Value) (x : Pc) (f ga gb : Fc) (lad : Option Addr) (lcap : Nat) : Tri Tryz.prog 137 #[.agg #[zp_ vb 0, .int .i64 (Fc.kind f), str (Fc.a f), str (Fc.b f), str (Fc.r f), .int .i64 (Fc.lo f), .int .i64 (Fc.hi f), .slice lad (List.length [ga, gb]) lcap, .int .i64 (Pc.kind x), str (Pc.a x), str (Pc.b x), str (Pc.c x), str (Pc.r x), str (Pc.s x), str (Pc.t x), .int .i64 (Pc.lo x), .int .i64 (Pc.hi x), .int .i64 (Pc.frm x)]] [] [cp_ vb (.cells (dc_ pv ab fv).toArray 83 (0, 0)), cp_ ab (.map es ec), aY_ lad (List.flatMap Fc.cells [ga, gb])] (fun _ : Unit => .bool (os_ kn x f ga gb)) (fun _ => []) (fun _ => []) := by
 refine S_ Tryz.func137 rfl rfl Tryz.ntmps137 rfl fun v0 => ?_
 refine g_ (c_ (aM_ rfl rfl fun b1 => ?_))
 refine a_ (e_ rfl) rfl (d_ (b_ rfl (g_ (c_ (a_ (h_ j_ rfl rfl rfl aN_) rfl (a_ (n_ 0 bn_ rfl rfl rfl) rfl (a_ (an_ ai_ l_ rfl rfl (fun v _ h => ba_ (n := 6) Fc.cells_len (by decide) (by exact h.2.2.1) (show [ga, gb][0]? = some _ from rfl)) (by omega) (by first | omega | (simp; done))) rfl (a_ (do_ o_ rfl rfl rfl y_) rfl (a_ (bE_ (ad := lad) H_ rfl (fun v _ h => by exact h.2.2.1) (ar_ Fc.cells_len (show [ga, gb][0]? = some _ from rfl) 2 _ rfl)) rfl ?_)))))))))
 refine a_ (e_ rfl) rfl (d_ (b_ rfl (g_ ?_)))
 refine aW_ (by kernel_rfl) ?_
 refine P_ 27 [0, 1, 2, 3, 4, 5, 6, 7, 8, 9, 10] (by kernel_rfl) (fun _ a b => ⟨a, b⟩) (m_ rfl (h_ j_ rfl rfl rfl aN_) rfl (m_ rfl (n_ 0 bn_ rfl rfl rfl) rfl (m_ rfl (an_ ai_ l_ rfl rfl (fun v _ h => ba_ (n := 6) Fc.cells_len (by decide) (by exact h.2.2.1) (show [ga, gb][0]? = some _ from rfl)) (by omega) (by first | omega | (simp; done))) rfl (m_ rfl (aX_ (ad := lad) (us := Fc.cells ga) U_ l_ rfl (fun v _ h => by exact h.2.2.1) (Fc.cells_len _) (ar_ Fc.cells_len (show [ga, gb][0]? = some _ from rfl))) rfl (m_ rfl (h_ j_ rfl rfl rfl l_) rfl (m_ rfl (h_ o_ rfl rfl rfl y_) rfl (m_ rfl (n_ 0 H_ rfl rfl rfl) rfl (m_ rfl (h_ j_ rfl rfl rfl ay_) rfl (m_ rfl (h_ R_ rfl rfl rfl y_) rfl ?_)))))))))
 refine m_ rfl (n_ 0 H_ rfl rfl rfl) rfl (m_ rfl (f_ rfl) rfl (O_ (L_ 11 rfl (by kernel_rfl) (K_ (ea_ (Fc.a f) (Pc.r x) (Fc.b ga)) rfl x_ (fun _ _ _ => by exact trivial) rfl fun _ => ?_))))
 refine d_ (p_ rfl (D_ (fun _ a b => ⟨a, b⟩) (P_ 24 [12, 13] (by kernel_rfl) (fun _ a b => ⟨a, b⟩) ?_)))
 refine bJ_ rfl (av_ (p := ga) (q := (bI_ (Fc.a f) (Pc.r x) (Fc.b ga))) rfl rfl) rfl fun r1 hr1 => ?_
 refine m_ rfl (f_ rfl) rfl (O_ ?_)
 cases r1
 ·
  replace hr1 := of_decide_eq_false hr1
  refine P_ 0 [14, 15, 16, 17, 18, 19, 20, 21, 22, 23, 24, 25, 26, 27, 28, 29, 30, 31, 32, 33, 34, 35, 36, 37] (by kernel_rfl) (fun _ a b => ⟨a, b⟩) (z_ rfl rfl rfl rfl rfl (z_ rfl rfl rfl rfl rfl (z_ rfl rfl rfl rfl rfl (z_ rfl rfl rfl rfl rfl (z_ rfl rfl rfl rfl rfl (z_ rfl rfl rfl rfl rfl (z_ rfl rfl rfl rfl rfl (z_ rfl rfl rfl rfl rfl (z_ rfl rfl rfl rfl rfl ?_)))))))))
  refine z_ rfl rfl rfl rfl rfl (m_ rfl (t_ rfl rfl) rfl (m_ rfl (f_ rfl) rfl (z_ rfl rfl rfl rfl rfl (z_ rfl rfl rfl rfl rfl (z_ rfl rfl rfl rfl rfl (z_ rfl rfl rfl rfl rfl (z_ rfl rfl rfl rfl rfl (z_ rfl rfl rfl rfl rfl (z_ rfl rfl rfl rfl rfl ?_)))))))))
  refine z_ rfl rfl rfl rfl rfl (z_ rfl rfl rfl rfl rfl (z_ rfl rfl rfl rfl rfl (m_ rfl (t_ rfl rfl) rfl (m_ rfl (e_ rfl) rfl (O_ (T_ (by kernel_rfl) (b_ rfl (u_ ?_))))))))
  exact Y_ Tryz.results137 () (s_ rfl (by have p1 := eq_false hr1; simp only [os_, p1, if_true, if_false, decide_true, decide_false, Bool.and_true, Bool.and_false, Bool.true_and, Bool.false_and, Bool.or_true, Bool.or_false, Bool.true_or, Bool.false_or, Bool.not_true, Bool.not_false, ne_eq, not_true_eq_false, not_false_eq_true, true_and, and_true, false_and, and_false, true_or, or_true, false_or, or_false, ite_true, ite_false, Bool.false_eq_true])) x_ (fun _ _ _ => trivial)
 ·
  replace hr1 := of_decide_eq_true hr1
  refine P_ 16 [14, 15, 16, 17, 18, 19, 20, 21] (by kernel_rfl) (fun _ a b => ⟨a, b⟩) (r_ rfl rfl rfl (h_ j_ rfl rfl rfl aN_) rfl (r_ rfl rfl rfl (n_ 0 bn_ rfl rfl rfl) rfl (r_ rfl rfl rfl (an_ ai_ l_ rfl rfl (fun v _ h => ba_ (n := 6) Fc.cells_len (by decide) (by exact h.2.2.1) (show [ga, gb][1]? = some _ from rfl)) (by omega) (by first | omega | (simp; done))) rfl (r_ rfl rfl rfl (aX_ (ad := lad) (us := Fc.cells gb) U_ l_ rfl (fun v _ h => by exact h.2.2.1) (Fc.cells_len _) (ar_ Fc.cells_len (show [ga, gb][1]? = some _ from rfl))) rfl (r_ rfl rfl rfl (f_ rfl) rfl (r_ rfl rfl rfl (h_ j_ rfl rfl rfl ay_) rfl (r_ rfl rfl rfl (h_ R_ rfl rfl rfl y_) rfl (r_ rfl rfl rfl (n_ 0 H_ rfl rfl rfl) rfl (O_ ?_)))))))))
  refine L_ 22 rfl (by kernel_rfl) (i_ rfl rfl (K_ (bO_ (Fc.b ga) (Pc.a x)) rfl x_ (fun _ _ _ => by exact trivial) rfl fun _ => ?_))
  refine d_ (p_ rfl (D_ (fun _ a b => ⟨a, b⟩) (P_ 12 [23, 24, 25] (by kernel_rfl) (fun _ a b => ⟨a, b⟩) ?_)))
  refine az_ rfl rfl rfl (av_ (p := gb) (q := (aL_ (Fc.b ga) (Pc.a x))) rfl rfl) rfl fun r2 hr2 => ?_
  refine m_ rfl (v_ rfl rfl) rfl (m_ rfl (f_ rfl) rfl (O_ ?_))
  cases r2
  ·
   replace hr2 := of_decide_eq_false hr2
   refine P_ 0 [26, 27, 28, 29, 30, 31, 32, 33, 34, 35, 36, 37] (by kernel_rfl) (fun _ a b => ⟨a, b⟩) (z_ rfl rfl rfl rfl rfl (z_ rfl rfl rfl rfl rfl (z_ rfl rfl rfl rfl rfl (z_ rfl rfl rfl rfl rfl (z_ rfl rfl rfl rfl rfl (z_ rfl rfl rfl rfl rfl (z_ rfl rfl rfl rfl rfl (z_ rfl rfl rfl rfl rfl (z_ rfl rfl rfl rfl rfl ?_)))))))))
   refine z_ rfl rfl rfl rfl rfl (m_ rfl (t_ rfl rfl) rfl (m_ rfl (e_ rfl) rfl (O_ (T_ (by kernel_rfl) (b_ rfl (u_ ?_))))))
   exact Y_ Tryz.results137 () (s_ rfl (by have p1 := eq_true hr1; have p2 := eq_false hr2; simp only [os_, p1, p2, if_true, if_false, decide_true, decide_false, Bool.and_true, Bool.and_false, Bool.true_and, Bool.false_and, Bool.or_true, Bool.or_false, Bool.true_or, Bool.false_or, Bool.not_true, Bool.not_false, ne_eq, not_true_eq_false, not_false_eq_true, true_and, and_true, false_and, and_false, true_or, or_true, false_or, or_false, ite_true, ite_false, Bool.false_eq_true])) x_ (fun _ _ _ => trivial)
  ·
   replace hr2 := of_decide_eq_true hr2
   refine P_ 4 [26, 27, 28, 29, 30, 31, 32, 33] (by kernel_rfl) (fun _ a b => ⟨a, b⟩) (r_ rfl rfl rfl (h_ j_ rfl rfl rfl l_) rfl (r_ rfl rfl rfl (M_ 0 U_ l_ rfl rfl rfl) rfl (r_ rfl rfl rfl (h_ j_ rfl rfl rfl l_) rfl (r_ rfl rfl rfl (h_ o_ rfl rfl rfl y_) rfl (r_ rfl rfl rfl (n_ 0 H_ rfl rfl rfl) rfl (r_ rfl rfl rfl (h_ j_ rfl rfl rfl ay_) rfl (r_ rfl rfl rfl (h_ R_ rfl rfl rfl y_) rfl (r_ rfl rfl rfl (n_ 0 H_ rfl rfl rfl) rfl (O_ ?_)))))))))
   refine L_ 34 rfl (by kernel_rfl) (i_ rfl rfl (K_ (bO_ (Fc.a f) (Pc.c x)) rfl x_ (fun _ _ _ => by exact trivial) rfl fun _ => ?_))
   refine d_ (p_ rfl (D_ (fun _ a b => ⟨a, b⟩) (P_ 0 [35, 36, 37] (by kernel_rfl) (fun _ a b => ⟨a, b⟩) ?_)))
   refine az_ rfl rfl rfl (av_ (p := f) (q := (aL_ (Fc.a f) (Pc.c x))) rfl rfl) rfl fun r3 hr3 => ?_
   refine m_ rfl (v_ rfl rfl) rfl (m_ rfl (e_ rfl) rfl (O_ (T_ (by kernel_rfl) (b_ rfl (u_ ?_)))))
   exact Y_ Tryz.results137 () (s_ rfl (by have p1 := eq_true hr1; have p2 := eq_true hr2; rw [← hr3]; simp only [os_, p1, p2, if_true, if_false, decide_true, decide_false, Bool.and_true, Bool.and_false, Bool.true_and, Bool.false_and, Bool.or_true, Bool.or_false, Bool.true_or, Bool.false_or, Bool.not_true, Bool.not_false, ne_eq, not_true_eq_false, not_false_eq_true, true_and, and_true, false_and, and_false, true_or, or_true, false_or, or_false, ite_true, ite_false, Bool.false_eq_true])) x_ (fun _ _ _ => trivial)
set_option maxHeartbeats 1000000 in
theorem pp_ (kn : Str → Bool) (q : List Str) (hkn : ∀ s, kn s = true ↔ s ∈ q) (es : Array MapEntry) (ec : Nat) (hE : SetE str es q) (vb ab : Nat) (pv fv : Value) (x : Pc) (f ga gb : Fc) (lad : Option Addr) (lcap : Nat) : Tri Tryz.prog 138 #[.agg #[zp_ vb 0, .int .i64 (Fc.kind f), str (Fc.a f), str (Fc.b f), str (Fc.r f), .int .i64 (Fc.lo f), .int .i64 (Fc.hi f), .slice lad (List.length [ga, gb]) lcap, .int .i64 (Pc.kind x), str (Pc.a x), str (Pc.b x), str (Pc.c x), str (Pc.r x), str (Pc.s x), str (Pc.t x), .int .i64 (Pc.lo x), .int .i64 (Pc.hi x), .int .i64 (Pc.frm x)]] [] [cp_ vb (.cells (dc_ pv ab fv).toArray 83 (0, 0)), cp_ ab (.map es ec), aY_ lad (List.flatMap Fc.cells [ga, gb])] (fun _ : Unit => .bool (or_ kn x f ga gb)) (fun _ => []) (fun _ => []) := by
  refine S_ Tryz.func138 rfl rfl Tryz.ntmps138 rfl fun v0 => ?_
  refine g_ (c_ (aM_ rfl rfl fun b1 => ?_))
  refine a_ (e_ rfl) rfl (d_ (b_ rfl (g_ (c_ (a_ (h_ j_ rfl rfl rfl aN_) rfl (a_ (n_ 0 bn_ rfl rfl rfl) rfl (a_ (an_ ai_ l_ rfl rfl (fun v _ h => ba_ (n := 6) Fc.cells_len (by decide) (by exact h.2.2.1) (show [ga, gb][0]? = some _ from rfl)) (by omega) (by first | omega | (simp; done))) rfl (a_ (do_ o_ rfl rfl rfl y_) rfl (a_ (bE_ (ad := lad) H_ rfl (fun v _ h => by exact h.2.2.1) (ar_ Fc.cells_len (show [ga, gb][0]? = some _ from rfl) 2 _ rfl)) rfl ?_)))))))))
  refine a_ (e_ rfl) rfl (d_ (b_ rfl (g_ ?_)))
  refine aW_ (by kernel_rfl) ?_
  refine P_ 21 [0, 1, 2, 3, 4, 5, 6, 7, 8, 9, 10, 11, 12] (by kernel_rfl) (fun _ a b => ⟨a, b⟩) (m_ rfl (h_ j_ rfl rfl rfl aN_) rfl (m_ rfl (n_ 0 bn_ rfl rfl rfl) rfl (m_ rfl (an_ ai_ l_ rfl rfl (fun v _ h => ba_ (n := 6) Fc.cells_len (by decide) (by exact h.2.2.1) (show [ga, gb][0]? = some _ from rfl)) (by omega) (by first | omega | (simp; done))) rfl (m_ rfl (aX_ (ad := lad) (us := Fc.cells ga) U_ l_ rfl (fun v _ h => by exact h.2.2.1) (Fc.cells_len _) (ar_ Fc.cells_len (show [ga, gb][0]? = some _ from rfl))) rfl (m_ rfl (h_ j_ rfl rfl rfl l_) rfl (m_ rfl (h_ o_ rfl rfl rfl y_) rfl (m_ rfl (n_ 0 H_ rfl rfl rfl) rfl (m_ rfl (h_ j_ rfl rfl rfl aN_) rfl (m_ rfl (n_ 0 bn_ rfl rfl rfl) rfl ?_)))))))))
  refine m_ rfl (an_ ai_ l_ rfl rfl (fun v _ h => ba_ (n := 6) Fc.cells_len (by decide) (by exact h.2.2.1) (show [ga, gb][0]? = some _ from rfl)) (by omega) (by first | omega | (simp; done))) rfl (m_ rfl (do_ o_ rfl rfl rfl y_) rfl (m_ rfl (bE_ (ad := lad) H_ rfl (fun v _ h => by exact h.2.2.1) (ar_ Fc.cells_len (show [ga, gb][0]? = some _ from rfl) 3 _ rfl)) rfl (m_ rfl (f_ rfl) rfl (O_ (L_ 13 rfl (by kernel_rfl) (K_ (ea_ (Fc.a f) (Fc.r ga) (Fc.b ga)) rfl x_ (fun _ _ _ => by exact trivial) rfl fun _ => ?_))))))
  refine d_ (p_ rfl (D_ (fun _ a b => ⟨a, b⟩) (P_ 18 [14, 15] (by kernel_rfl) (fun _ a b => ⟨a, b⟩) ?_)))
  refine bJ_ rfl (av_ (p := ga) (q := (bI_ (Fc.a f) (Fc.r ga) (Fc.b ga))) rfl rfl) rfl fun r1 hr1 => ?_
  refine m_ rfl (f_ rfl) rfl (O_ ?_)
  cases r1
  · skip
    replace hr1 := of_decide_eq_false hr1
    refine P_ 0 [16, 17, 18, 19, 20, 21, 22, 23, 24, 25, 26, 27, 28, 29, 30, 31, 32, 33] (by kernel_rfl) (fun _ a b => ⟨a, b⟩) (z_ rfl rfl rfl rfl rfl (z_ rfl rfl rfl rfl rfl (z_ rfl rfl rfl rfl rfl (z_ rfl rfl rfl rfl rfl (z_ rfl rfl rfl rfl rfl (z_ rfl rfl rfl rfl rfl (z_ rfl rfl rfl rfl rfl (m_ rfl (t_ rfl rfl) rfl (m_ rfl (f_ rfl) rfl ?_)))))))))
    refine z_ rfl rfl rfl rfl rfl (z_ rfl rfl rfl rfl rfl (z_ rfl rfl rfl rfl rfl (z_ rfl rfl rfl rfl rfl (z_ rfl rfl rfl rfl rfl (z_ rfl rfl rfl rfl rfl (z_ rfl rfl rfl rfl rfl (m_ rfl (t_ rfl rfl) rfl (m_ rfl (e_ rfl) rfl (O_ ?_)))))))))
    refine T_ (by kernel_rfl) (b_ rfl (u_ ?_))
    exact Y_ Tryz.results138 () (s_ rfl (by have p1 := eq_false hr1; simp only [or_, p1, if_true, if_false, decide_true, decide_false, Bool.and_true, Bool.and_false, Bool.true_and, Bool.false_and, Bool.or_true, Bool.or_false, Bool.true_or, Bool.false_or, Bool.not_true, Bool.not_false, ne_eq, not_true_eq_false, not_false_eq_true, true_and, and_true, false_and, and_false, true_or, or_true, false_or, or_false, ite_true, ite_false, Bool.false_eq_true])) x_ (fun _ _ _ => trivial)
  · skip
    replace hr1 := of_decide_eq_true hr1
    refine P_ 13 [16, 17, 18, 19, 20] (by kernel_rfl) (fun _ a b => ⟨a, b⟩) (r_ rfl rfl rfl (h_ j_ rfl rfl rfl aN_) rfl (r_ rfl rfl rfl (n_ 0 bn_ rfl rfl rfl) rfl (r_ rfl rfl rfl (an_ ai_ l_ rfl rfl (fun v _ h => ba_ (n := 6) Fc.cells_len (by decide) (by exact h.2.2.1) (show [ga, gb][1]? = some _ from rfl)) (by omega) (by first | omega | (simp; done))) rfl (r_ rfl rfl rfl (aX_ (ad := lad) (us := Fc.cells gb) U_ l_ rfl (fun v _ h => by exact h.2.2.1) (Fc.cells_len _) (ar_ Fc.cells_len (show [ga, gb][1]? = some _ from rfl))) rfl (r_ rfl rfl rfl (f_ rfl) rfl (O_ (L_ 21 rfl (by kernel_rfl) (i_ rfl rfl (K_ (bO_ (Fc.b ga) [33]) rfl x_ (fun _ _ _ => by exact trivial) rfl fun _ => ?_)))))))))
    refine d_ (p_ rfl (D_ (fun _ a b => ⟨a, b⟩) (P_ 9 [22, 23, 24] (by kernel_rfl) (fun _ a b => ⟨a, b⟩) ?_)))
    refine az_ rfl rfl rfl (av_ (p := gb) (q := (aL_ (Fc.b ga) [33])) rfl rfl) rfl fun r2 hr2 => ?_
    refine m_ rfl (v_ rfl rfl) rfl (m_ rfl (f_ rfl) rfl (O_ ?_))
    cases r2
    · skip
      replace hr2 := of_decide_eq_false hr2
      refine P_ 0 [25, 26, 27, 28, 29, 30, 31, 32, 33] (by kernel_rfl) (fun _ a b => ⟨a, b⟩) (z_ rfl rfl rfl rfl rfl (z_ rfl rfl rfl rfl rfl (z_ rfl rfl rfl rfl rfl (z_ rfl rfl rfl rfl rfl (z_ rfl rfl rfl rfl rfl (z_ rfl rfl rfl rfl rfl (z_ rfl rfl rfl rfl rfl (m_ rfl (t_ rfl rfl) rfl (m_ rfl (e_ rfl) rfl ?_)))))))))
      refine O_ (T_ (by kernel_rfl) (b_ rfl (u_ ?_)))
      exact Y_ Tryz.results138 () (s_ rfl (by have p1 := eq_true hr1; have p2 := eq_false hr2; simp only [or_, p1, p2, if_true, if_false, decide_true, decide_false, Bool.and_true, Bool.and_false, Bool.true_and, Bool.false_and, Bool.or_true, Bool.or_false, Bool.true_or, Bool.false_or, Bool.not_true, Bool.not_false, ne_eq, not_true_eq_false, not_false_eq_true, true_and, and_true, false_and, and_false, true_or, or_true, false_or, or_false, ite_true, ite_false, Bool.false_eq_true])) x_ (fun _ _ _ => trivial)
    · skip
      replace hr2 := of_decide_eq_true hr2
      refine P_ 4 [25, 26, 27, 28, 29] (by kernel_rfl) (fun _ a b => ⟨a, b⟩) (r_ rfl rfl rfl (h_ j_ rfl rfl rfl l_) rfl (r_ rfl rfl rfl (M_ 0 U_ l_ rfl rfl rfl) rfl (r_ rfl rfl rfl (h_ j_ rfl rfl rfl l_) rfl (r_ rfl rfl rfl (h_ o_ rfl rfl rfl y_) rfl (r_ rfl rfl rfl (n_ 0 H_ rfl rfl rfl) rfl (O_ (L_ 30 rfl (by kernel_rfl) (i_ rfl rfl (K_ (bO_ (Fc.a f) [33]) rfl x_ (fun _ _ _ => by exact trivial) rfl fun _ => ?_)))))))))
      refine d_ (p_ rfl (D_ (fun _ a b => ⟨a, b⟩) (P_ 0 [31, 32, 33] (by kernel_rfl) (fun _ a b => ⟨a, b⟩) ?_)))
      refine az_ rfl rfl rfl (av_ (p := f) (q := (aL_ (Fc.a f) [33])) rfl rfl) rfl fun r3 hr3 => ?_
      refine m_ rfl (v_ rfl rfl) rfl (m_ rfl (e_ rfl) rfl (O_ (T_ (by kernel_rfl) (b_ rfl (u_ ?_)))))
      exact Y_ Tryz.results138 () (s_ rfl (by have p1 := eq_true hr1; have p2 := eq_true hr2; rw [← hr3]; simp only [or_, p1, p2, if_true, if_false, decide_true, decide_false, Bool.and_true, Bool.and_false, Bool.true_and, Bool.false_and, Bool.or_true, Bool.or_false, Bool.true_or, Bool.false_or, Bool.not_true, Bool.not_false, ne_eq, not_true_eq_false, not_false_eq_true, true_and, and_true, false_and, and_false, true_or, or_true, false_or, or_false, ite_true, ite_false, Bool.false_eq_true])) x_ (fun _ _ _ => trivial)
set_option maxHeartbeats 1000000 in
theorem ok_ (kn : Str → Bool) (q : List Str) (hkn : ∀ s, kn s = true ↔ s ∈ q) (es : Array MapEntry) (ec : Nat) (hE : SetE str es q) (vb ab : Nat) (pv fv : Value) (x : Pc) (f : Fc) (lad : Option Addr) (lcap : Nat) : Tri Tryz.prog 139 #[.agg #[zp_ vb 0, .int .i64 (Fc.kind f), str (Fc.a f), str (Fc.b f), str (Fc.r f), .int .i64 (Fc.lo f), .int .i64 (Fc.hi f), .slice lad (List.length ([] : List Fc)) lcap, .int .i64 (Pc.kind x), str (Pc.a x), str (Pc.b x), str (Pc.c x), str (Pc.r x), str (Pc.s x), str (Pc.t x), .int .i64 (Pc.lo x), .int .i64 (Pc.hi x), .int .i64 (Pc.frm x)]] [] [cp_ vb (.cells (dc_ pv ab fv).toArray 83 (0, 0)), cp_ ab (.map es ec), aY_ lad (List.flatMap Fc.cells ([] : List Fc))] (fun _ : Unit => .bool (mp_ kn x f zfc zfc)) (fun _ => []) (fun _ => []) := by
  refine S_ Tryz.func139 rfl rfl Tryz.ntmps139 rfl fun v0 => ?_
  refine g_ (c_ (aM_ rfl rfl fun b1 => ?_))
  refine a_ (e_ rfl) rfl (d_ (b_ rfl (g_ ?_)))
  refine aW_ (by kernel_rfl) ?_
  refine P_ 15 [0, 1, 2, 3, 4, 5, 6, 7, 8, 9] (by kernel_rfl) (fun _ a b => ⟨a, b⟩) (m_ rfl (h_ j_ rfl rfl rfl Tryz.sizeOf74) rfl (m_ rfl (n_ 0 Tryz.isAgg74 rfl rfl rfl) rfl (m_ rfl (bk_ rfl) rfl (m_ rfl (h_ bm_ rfl rfl rfl pZ_) rfl (m_ rfl (dv_ Tryz.isAgg77 rfl (fun v _ h => by exact h.1) rfl) rfl (m_ rfl (h_ j_ rfl rfl rfl l_) rfl (m_ rfl (h_ o_ rfl rfl rfl y_) rfl (m_ rfl (n_ 0 H_ rfl rfl rfl) rfl ?_))))))))
  refine bJ_ rfl (gJ_ hkn (fw_ (k := (Fc.a f)) jc_ es_ Tryz.zeroValue4 rfl rfl hE (fun v _ h => (by exact h.2.1 : (cp_ ab (.map es ec)).p v).2))) rfl fun r1 hr1 => ?_
  refine m_ rfl (f_ rfl) rfl (O_ ?_)
  cases r1
  · skip
    refine P_ 0 [10, 11, 12, 13, 14, 15, 16, 17, 18, 19, 20, 21, 22, 23, 24] (by kernel_rfl) (fun _ a b => ⟨a, b⟩) (z_ rfl rfl rfl rfl rfl (z_ rfl rfl rfl rfl rfl (z_ rfl rfl rfl rfl rfl (z_ rfl rfl rfl rfl rfl (z_ rfl rfl rfl rfl rfl (z_ rfl rfl rfl rfl rfl (z_ rfl rfl rfl rfl rfl (z_ rfl rfl rfl rfl rfl (z_ rfl rfl rfl rfl rfl ?_)))))))))
    refine z_ rfl rfl rfl rfl rfl (z_ rfl rfl rfl rfl rfl (z_ rfl rfl rfl rfl rfl (z_ rfl rfl rfl rfl rfl (m_ rfl (t_ rfl rfl) rfl (m_ rfl (e_ rfl) rfl (O_ (T_ (by kernel_rfl) (b_ rfl (u_ ?_)))))))))
    exact Y_ Tryz.results139 () (s_ rfl (by simp only [mp_, hr1, if_true, if_false, decide_true, decide_false, Bool.and_true, Bool.and_false, Bool.true_and, Bool.false_and, Bool.or_true, Bool.or_false, Bool.true_or, Bool.false_or, Bool.not_true, Bool.not_false, ne_eq, not_true_eq_false, not_false_eq_true, true_and, and_true, false_and, and_false, true_or, or_true, false_or, or_false, ite_true, ite_false, Bool.false_eq_true])) x_ (fun _ _ _ => trivial)
  · skip
    refine P_ 4 [10, 11, 12, 13, 14, 15, 16, 17, 18, 19, 20] (by kernel_rfl) (fun _ a b => ⟨a, b⟩) (r_ rfl rfl rfl (h_ j_ rfl rfl rfl l_) rfl (r_ rfl rfl rfl (M_ 0 U_ l_ rfl rfl rfl) rfl (r_ rfl rfl rfl (h_ j_ rfl rfl rfl l_) rfl (r_ rfl rfl rfl (h_ o_ rfl rfl rfl y_) rfl (r_ rfl rfl rfl (n_ 0 H_ rfl rfl rfl) rfl (r_ rfl rfl rfl (h_ j_ rfl rfl rfl ay_) rfl (r_ rfl rfl rfl (h_ R_ rfl rfl rfl y_) rfl (r_ rfl rfl rfl (n_ 0 H_ rfl rfl rfl) rfl (r_ rfl rfl rfl (h_ j_ rfl rfl rfl l_) rfl ?_)))))))))
    refine r_ rfl rfl rfl (h_ o_ rfl rfl rfl y_) rfl (r_ rfl rfl rfl (n_ 0 H_ rfl rfl rfl) rfl (O_ (L_ 21 rfl (by kernel_rfl) (i_ rfl rfl (K_ (ea_ (Fc.a f) (Pc.r x) (Fc.a f)) rfl x_ (fun _ _ _ => by exact trivial) rfl fun _ => ?_)))))
    refine d_ (p_ rfl (D_ (fun _ a b => ⟨a, b⟩) (P_ 0 [22, 23, 24] (by kernel_rfl) (fun _ a b => ⟨a, b⟩) ?_)))
    refine az_ rfl rfl rfl (av_ (p := f) (q := (bI_ (Fc.a f) (Pc.r x) (Fc.a f))) rfl rfl) rfl fun r2 hr2 => ?_
    refine m_ rfl (v_ rfl rfl) rfl (m_ rfl (e_ rfl) rfl (O_ (T_ (by kernel_rfl) (b_ rfl (u_ ?_)))))
    exact Y_ Tryz.results139 () (s_ rfl (by rw [← hr2]; simp only [mp_, hr1, if_true, if_false, decide_true, decide_false, Bool.and_true, Bool.and_false, Bool.true_and, Bool.false_and, Bool.or_true, Bool.or_false, Bool.true_or, Bool.false_or, Bool.not_true, Bool.not_false, ne_eq, not_true_eq_false, not_false_eq_true, true_and, and_true, false_and, and_false, true_or, or_true, false_or, or_false, ite_true, ite_false, Bool.false_eq_true])) x_ (fun _ _ _ => trivial)
set_option maxHeartbeats 1000000 in
theorem oj_ (kn : Str → Bool) (q : List Str) (hkn : ∀ s, kn s = true ↔ s ∈ q) (es : Array MapEntry) (ec : Nat) (hE : SetE str es q) (vb ab : Nat) (pv fv : Value) (x : Pc) (f ga : Fc) (lad : Option Addr) (lcap : Nat) : Tri Tryz.prog 140 #[.agg #[zp_ vb 0, .int .i64 (Fc.kind f), str (Fc.a f), str (Fc.b f), str (Fc.r f), .int .i64 (Fc.lo f), .int .i64 (Fc.hi f), .slice lad (List.length [ga]) lcap, .int .i64 (Pc.kind x), str (Pc.a x), str (Pc.b x), str (Pc.c x), str (Pc.r x), str (Pc.s x), str (Pc.t x), .int .i64 (Pc.lo x), .int .i64 (Pc.hi x), .int .i64 (Pc.frm x)]] [] [cp_ vb (.cells (dc_ pv ab fv).toArray 83 (0, 0)), cp_ ab (.map es ec), aY_ lad (List.flatMap Fc.cells [ga])] (fun _ : Unit => .bool (mo_ kn x f ga zfc)) (fun _ => []) (fun _ => []) := by
  refine S_ Tryz.func140 rfl rfl Tryz.ntmps140 rfl fun v0 => ?_
  refine g_ (c_ (aM_ rfl rfl fun b1 => ?_))
  refine a_ (e_ rfl) rfl (d_ (b_ rfl (g_ ?_)))
  refine aW_ (by kernel_rfl) ?_
  refine P_ 21 [0, 1, 2, 3, 4, 5, 6, 7, 8, 9] (by kernel_rfl) (fun _ a b => ⟨a, b⟩) (m_ rfl (h_ j_ rfl rfl rfl aN_) rfl (m_ rfl (n_ 0 bn_ rfl rfl rfl) rfl (m_ rfl (an_ ai_ l_ rfl rfl (fun v _ h => ba_ (n := 6) Fc.cells_len (by decide) (by exact h.2.2.1) (show [ga][0]? = some _ from rfl)) (by omega) (by first | omega | (simp; done))) rfl (m_ rfl (aX_ (ad := lad) (us := Fc.cells ga) U_ l_ rfl (fun v _ h => by exact h.2.2.1) (Fc.cells_len _) (ar_ Fc.cells_len (show [ga][0]? = some _ from rfl))) rfl (m_ rfl (h_ j_ rfl rfl rfl l_) rfl (m_ rfl (h_ o_ rfl rfl rfl y_) rfl (m_ rfl (n_ 0 H_ rfl rfl rfl) rfl (m_ rfl (h_ j_ rfl rfl rfl ay_) rfl (m_ rfl (h_ R_ rfl rfl rfl y_) rfl ?_)))))))))
  refine m_ rfl (n_ 0 H_ rfl rfl rfl) rfl (O_ (L_ 10 rfl (by kernel_rfl) (K_ (bO_ (Fc.a f) (Pc.a x)) rfl x_ (fun _ _ _ => by exact trivial) rfl fun _ => ?_)))
  refine d_ (p_ rfl (D_ (fun _ a b => ⟨a, b⟩) (P_ 18 [11, 12] (by kernel_rfl) (fun _ a b => ⟨a, b⟩) ?_)))
  refine bJ_ rfl (av_ (p := ga) (q := (aL_ (Fc.a f) (Pc.a x))) rfl rfl) rfl fun r1 hr1 => ?_
  refine m_ rfl (f_ rfl) rfl (O_ ?_)
  cases r1
  · skip
    replace hr1 := of_decide_eq_false hr1
    refine P_ 0 [13, 14, 15, 16, 17, 18, 19, 20, 21, 22, 23, 24, 25, 26, 27, 28, 29, 30] (by kernel_rfl) (fun _ a b => ⟨a, b⟩) (z_ rfl rfl rfl rfl rfl (z_ rfl rfl rfl rfl rfl (z_ rfl rfl rfl rfl rfl (z_ rfl rfl rfl rfl rfl (z_ rfl rfl rfl rfl rfl (z_ rfl rfl rfl rfl rfl (z_ rfl rfl rfl rfl rfl (z_ rfl rfl rfl rfl rfl (z_ rfl rfl rfl rfl rfl ?_)))))))))
    refine z_ rfl rfl rfl rfl rfl (z_ rfl rfl rfl rfl rfl (z_ rfl rfl rfl rfl rfl (z_ rfl rfl rfl rfl rfl (z_ rfl rfl rfl rfl rfl (z_ rfl rfl rfl rfl rfl (z_ rfl rfl rfl rfl rfl (m_ rfl (t_ rfl rfl) rfl (m_ rfl (e_ rfl) rfl (O_ ?_)))))))))
    refine T_ (by kernel_rfl) (b_ rfl (u_ ?_))
    exact Y_ Tryz.results140 () (s_ rfl (by have p1 := eq_false hr1; simp only [mo_, p1, if_true, if_false, decide_true, decide_false, Bool.and_true, Bool.and_false, Bool.true_and, Bool.false_and, Bool.or_true, Bool.or_false, Bool.true_or, Bool.false_or, Bool.not_true, Bool.not_false, ne_eq, not_true_eq_false, not_false_eq_true, true_and, and_true, false_and, and_false, true_or, or_true, false_or, or_false, ite_true, ite_false, Bool.false_eq_true])) x_ (fun _ _ _ => trivial)
  · skip
    replace hr1 := of_decide_eq_true hr1
    refine P_ 4 [13, 14, 15, 16, 17, 18, 19, 20, 21, 22, 23, 24, 25, 26] (by kernel_rfl) (fun _ a b => ⟨a, b⟩) (r_ rfl rfl rfl (h_ j_ rfl rfl rfl l_) rfl (r_ rfl rfl rfl (M_ 0 U_ l_ rfl rfl rfl) rfl (r_ rfl rfl rfl (h_ j_ rfl rfl rfl l_) rfl (r_ rfl rfl rfl (h_ o_ rfl rfl rfl y_) rfl (r_ rfl rfl rfl (n_ 0 H_ rfl rfl rfl) rfl (r_ rfl rfl rfl (h_ j_ rfl rfl rfl ay_) rfl (r_ rfl rfl rfl (h_ R_ rfl rfl rfl y_) rfl (r_ rfl rfl rfl (n_ 0 H_ rfl rfl rfl) rfl (r_ rfl rfl rfl (h_ j_ rfl rfl rfl ay_) rfl ?_)))))))))
    refine r_ rfl rfl rfl (h_ R_ rfl rfl rfl q_) rfl (r_ rfl rfl rfl (n_ 0 B_ rfl rfl rfl) rfl (r_ rfl rfl rfl (h_ j_ rfl rfl rfl ay_) rfl (r_ rfl rfl rfl (h_ R_ rfl rfl rfl q_) rfl (r_ rfl rfl rfl (n_ 0 B_ rfl rfl rfl) rfl (O_ (L_ 27 rfl (by kernel_rfl) (i_ rfl rfl (K_ (el_ (Fc.a f) (Pc.r x) (Pc.lo x) (Pc.hi x)) rfl x_ (fun _ _ _ => by exact trivial) rfl fun _ => ?_))))))))
    refine d_ (p_ rfl (D_ (fun _ a b => ⟨a, b⟩) (P_ 0 [28, 29, 30] (by kernel_rfl) (fun _ a b => ⟨a, b⟩) ?_)))
    refine az_ rfl rfl rfl (av_ (p := f) (q := (am_ (Fc.a f) (Pc.r x) (Pc.lo x) (Pc.hi x))) rfl rfl) rfl fun r2 hr2 => ?_
    refine m_ rfl (v_ rfl rfl) rfl (m_ rfl (e_ rfl) rfl (O_ (T_ (by kernel_rfl) (b_ rfl (u_ ?_)))))
    exact Y_ Tryz.results140 () (s_ rfl (by have p1 := eq_true hr1; rw [← hr2]; simp only [mo_, p1, if_true, if_false, decide_true, decide_false, Bool.and_true, Bool.and_false, Bool.true_and, Bool.false_and, Bool.or_true, Bool.or_false, Bool.true_or, Bool.false_or, Bool.not_true, Bool.not_false, ne_eq, not_true_eq_false, not_false_eq_true, true_and, and_true, false_and, and_false, true_or, or_true, false_or, or_false, ite_true, ite_false, Bool.false_eq_true])) x_ (fun _ _ _ => trivial)
set_option maxHeartbeats 1000000 in
theorem of_ (kn : Str → Bool) (q : List Str) (hkn : ∀ s, kn s = true ↔ s ∈ q) (es : Array MapEntry) (ec : Nat) (hE : SetE str es q) (vb ab : Nat) (pv fv : Value) (x : Pc) (f ga : Fc) (lad : Option Addr) (lcap : Nat) : Tri Tryz.prog 144 #[.agg #[zp_ vb 0, .int .i64 (Fc.kind f), str (Fc.a f), str (Fc.b f), str (Fc.r f), .int .i64 (Fc.lo f), .int .i64 (Fc.hi f), .slice lad (List.length [ga]) lcap, .int .i64 (Pc.kind x), str (Pc.a x), str (Pc.b x), str (Pc.c x), str (Pc.r x), str (Pc.s x), str (Pc.t x), .int .i64 (Pc.lo x), .int .i64 (Pc.hi x), .int .i64 (Pc.frm x)]] [] [cp_ vb (.cells (dc_ pv ab fv).toArray 83 (0, 0)), cp_ ab (.map es ec), aY_ lad (List.flatMap Fc.cells [ga])] (fun _ : Unit => .bool (ov_ kn x f ga zfc)) (fun _ => []) (fun _ => []) := by
  refine S_ Tryz.func144 rfl rfl Tryz.ntmps144 rfl fun v0 => ?_
  refine g_ (c_ (aM_ rfl rfl fun b1 => ?_))
  refine a_ (e_ rfl) rfl (d_ (b_ rfl (g_ ?_)))
  refine aW_ (by kernel_rfl) ?_
  refine P_ 3 [0, 1, 2, 3, 4, 5, 6] (by kernel_rfl) (fun _ a b => ⟨a, b⟩) (m_ rfl (h_ j_ rfl rfl rfl aN_) rfl (m_ rfl (n_ 0 bn_ rfl rfl rfl) rfl (m_ rfl (an_ ai_ l_ rfl rfl (fun v _ h => ba_ (n := 6) Fc.cells_len (by decide) (by exact h.2.2.1) (show [ga][0]? = some _ from rfl)) (by omega) (by first | omega | (simp; done))) rfl (m_ rfl (aX_ (ad := lad) (us := Fc.cells ga) U_ l_ rfl (fun v _ h => by exact h.2.2.1) (Fc.cells_len _) (ar_ Fc.cells_len (show [ga][0]? = some _ from rfl))) rfl (m_ rfl (h_ j_ rfl rfl rfl l_) rfl (m_ rfl (h_ o_ rfl rfl rfl y_) rfl (m_ rfl (n_ 0 H_ rfl rfl rfl) rfl (O_ (L_ 7 rfl (by kernel_rfl) ?_)))))))))
  refine K_ (bO_ (Fc.a f) [33]) rfl x_ (fun _ _ _ => by exact trivial) rfl fun _ => ?_
  refine d_ (p_ rfl (D_ (fun _ a b => ⟨a, b⟩) (P_ 0 [8, 9] (by kernel_rfl) (fun _ a b => ⟨a, b⟩) ?_)))
  refine bJ_ rfl (av_ (p := ga) (q := (aL_ (Fc.a f) [33])) rfl rfl) rfl fun r1 hr1 => ?_
  refine m_ rfl (e_ rfl) rfl (O_ (T_ (by kernel_rfl) (b_ rfl (u_ ?_))))
  exact Y_ Tryz.results144 () (s_ rfl (by rw [← hr1]; simp only [ov_, if_true, if_false, decide_true, decide_false, Bool.and_true, Bool.and_false, Bool.true_and, Bool.false_and, Bool.or_true, Bool.or_false, Bool.true_or, Bool.false_or, Bool.not_true, Bool.not_false, ne_eq, not_true_eq_false, not_false_eq_true, true_and, and_true, false_and, and_false, true_or, or_true, false_or, or_false, ite_true, ite_false, Bool.false_eq_true])) x_ (fun _ _ _ => trivial)
end Go.Proofs.YtaffcjgphlhppaaGreatDoor
namespace Go.Proofs.YtaffcjgphlhppaaGreatDoor
open Go Go.Sx Go.Proofs
attribute [local irreducible] Code.wp wpList wpAnyH
open Go.Vs
theorem lZ_ : gH_ Tryz.prog 243 [(0, 1)] [.nilFunc] := ⟨_, Tryz.zeroValue243, Tryz.runUnderlying243, fun w => by simp [Tryz.sizeOf241]⟩
theorem ivG_c (a b : Int) : Fn0 Tryz.prog 242 #[.int .i64 a, .int .i64 b] (.bool (decide (b < a))) := by
  refine S_ Tryz.func242 rfl rfl Tryz.ntmps242 rfl fun v0 => ?_
  refine g_ (c_ (a_ (e_ rfl) rfl (d_ (b_ rfl (g_ (c_ (a_ (f_ rfl) rfl (a_ (f_ rfl) rfl (E_ (bp_ rfl rfl) rfl fun r1 hr1 => ?_)))))))))
  refine a_ (e_ rfl) rfl (d_ (b_ rfl (u_ ?_)))
  exact Y_ Tryz.results242 () (s_ rfl (hr1).symm) x_ (fun _ _ _ => trivial)
theorem ivL_c (a b : Int) : Fn0 Tryz.prog 243 #[.int .i64 a, .int .i64 b] (.bool (decide (a < b))) := by
  refine S_ Tryz.func243 rfl rfl Tryz.ntmps243 rfl fun v0 => ?_
  refine g_ (c_ (a_ (e_ rfl) rfl (d_ (b_ rfl (g_ (c_ (a_ (f_ rfl) rfl (a_ (f_ rfl) rfl (E_ (au_ rfl rfl) rfl fun r1 hr1 => ?_)))))))))
  refine a_ (e_ rfl) rfl (d_ (b_ rfl (u_ ?_)))
  exact Y_ Tryz.results243 () (s_ rfl (hr1).symm) x_ (fun _ _ _ => trivial)
theorem ivGr_c : Fn0 Tryz.prog 209 #[] (.agg #[.func (.func 242) #[] #[]]) := by
  refine S_ Tryz.func209 rfl rfl Tryz.ntmps209 rfl fun v0 => ?_
  refine g_ (c_ (Z_ Tryz.zeroValue243 rfl fun b1 => ?_))
  refine d_ (b_ rfl (g_ (c_ (a_ (ax_ lZ_ rfl rfl) rfl (Q_ 0 Tryz.sizeOf243 rfl rfl rfl rfl rfl rfl (d_ (b_ rfl (u_ ?_))))))))
  exact et_ () (fun aa v h1 h2 => cG_ (us := [.func (.func 242) #[] #[]]) 0 Tryz.results209 Tryz.isAgg243 Tryz.sizeOf243 rfl rfl rfl aa v h1 h2) x_ (fun _ _ _ => trivial)
theorem ivLe_c : Fn0 Tryz.prog 211 #[] (.agg #[.func (.func 243) #[] #[]]) := by
  refine S_ Tryz.func211 rfl rfl Tryz.ntmps211 rfl fun v0 => ?_
  refine g_ (c_ (Z_ Tryz.zeroValue243 rfl fun b1 => ?_))
  refine d_ (b_ rfl (g_ (c_ (a_ (ax_ lZ_ rfl rfl) rfl (Q_ 0 Tryz.sizeOf243 rfl rfl rfl rfl rfl rfl (d_ (b_ rfl (u_ ?_))))))))
  exact et_ () (fun aa v h1 h2 => cG_ (us := [.func (.func 243) #[] #[]]) 0 Tryz.results211 Tryz.isAgg243 Tryz.sizeOf243 rfl rfl rfl aa v h1 h2) x_ (fun _ _ _ => trivial)
theorem pA_ (a b : Int) : Fn0 Tryz.prog 210 #[.agg #[.func (.func 242) #[] #[]], .int .i64 a, .int .i64 b] (.int .i64 (max a b)) := by
  refine S_ Tryz.func210 rfl rfl Tryz.ntmps210 rfl fun v0 => ?_
  refine g_ (c_ (aM_ rfl rfl fun b1 => ?_))
  refine a_ (e_ rfl) rfl (d_ (b_ rfl (g_ (g_ (c_ (a_ (h_ Tryz.runUnderlying243 rfl rfl rfl Tryz.sizeOf241) rfl (a_ (n_ 0 Tryz.isAgg241 rfl rfl rfl) rfl (a_ (f_ rfl) rfl (a_ (f_ rfl) rfl ?_)))))))))
  refine bW_ (ivG_c a b) rfl rfl x_ (fun _ _ _ => by exact trivial) rfl fun r1 hr1 => ?_
  refine d_ (b_ rfl ?_)
  cases r1
  · skip
    replace hr1 := of_decide_eq_false hr1
    refine A_ rfl (J_ (b_ rfl (g_ (c_ (a_ (f_ rfl) rfl (a_ (e_ rfl) rfl (d_ (b_ rfl (u_ ?_)))))))))
    exact Y_ Tryz.results210 () (aH_ rfl (by omega)) x_ (fun _ _ _ => trivial)
  · skip
    replace hr1 := of_decide_eq_true hr1
    refine w_ rfl (g_ (c_ (a_ (f_ rfl) rfl (a_ (e_ rfl) rfl (d_ (b_ rfl (u_ ?_)))))))
    exact Y_ Tryz.results210 () (aH_ rfl (by omega)) x_ (fun _ _ _ => trivial)
theorem pz_ (a b : Int) : Fn0 Tryz.prog 210 #[.agg #[.func (.func 243) #[] #[]], .int .i64 a, .int .i64 b] (.int .i64 (min a b)) := by
  refine S_ Tryz.func210 rfl rfl Tryz.ntmps210 rfl fun v0 => ?_
  refine g_ (c_ (aM_ rfl rfl fun b1 => ?_))
  refine a_ (e_ rfl) rfl (d_ (b_ rfl (g_ (g_ (c_ (a_ (h_ Tryz.runUnderlying243 rfl rfl rfl Tryz.sizeOf241) rfl (a_ (n_ 0 Tryz.isAgg241 rfl rfl rfl) rfl (a_ (f_ rfl) rfl (a_ (f_ rfl) rfl ?_)))))))))
  refine bW_ (ivL_c a b) rfl rfl x_ (fun _ _ _ => by exact trivial) rfl fun r1 hr1 => ?_
  refine d_ (b_ rfl ?_)
  cases r1
  · skip
    replace hr1 := of_decide_eq_false hr1
    refine A_ rfl (J_ (b_ rfl (g_ (c_ (a_ (f_ rfl) rfl (a_ (e_ rfl) rfl (d_ (b_ rfl (u_ ?_)))))))))
    exact Y_ Tryz.results210 () (aH_ rfl (by omega)) x_ (fun _ _ _ => trivial)
  · skip
    replace hr1 := of_decide_eq_true hr1
    refine w_ rfl (g_ (c_ (a_ (f_ rfl) rfl (a_ (e_ rfl) rfl (d_ (b_ rfl (u_ ?_)))))))
    exact Y_ Tryz.results210 () (aH_ rfl (by omega)) x_ (fun _ _ _ => trivial)
def on_ (i : Int × Int) : Prop := -1099511627776 ≤ i.1 ∧ i.1 ≤ i.2 ∧ i.2 ≤ 1099511627776
theorem mX_ {a b : Int × Int} (ha : on_ a) (hb : on_ b) : eg_ [a, b] = 0 := by
  have e : ∀ i : Int × Int, on_ i → eb_ i = 0 := fun i h => by
    obtain ⟨h1, h2, h3⟩ := h
    unfold eb_; rw [if_neg (by omega), if_neg (by omega)]
  simp [eg_, gg_, e a ha, e b hb]
def ez_ (i j : Int × Int) : (Int × Int) × Int := if max i.1 j.1 ≤ min i.2 j.2 then ((max i.1 j.1, min i.2 j.2), 0) else ((0, 0), 80)
theorem nT_ {P : Program} {N : Nat} {fr : Fr} {H : Hp} {fn : Func} {t s b n : Nat} {ty T : TypeId} {us : List Value} {u : Value} (i : Nat) (hr : fn.results = #[.cell t ty, .tmp s]) (ha : ∀ w, (isAgg ty).run P w = .ok true w) (hs : ∀ w, (sizeOf ty).run P w = .ok n w) (hn : us.length = n) (hx : Fr.get fr t = some (zp_ b 0)) (hu : Fr.get fr s = some u)
    (hi : H[i]? = some (b, .cells us.toArray T (0, 0))) (a : Act) (v : Vw) (h1 : Fr.sat N fr a) (h2 : v.sat H) : (results fn a.tmps).run P v.w = .ok (.tuple #[.agg us.toArray, u]) v.w := by
  have e := h1.val t _ hx
  have e' := h1.val s _ hu
  have hl := bX_ (t := ty) (w := v.w) (b := b) (off := 0) ha hs hn (fun j y hj => by rw [Nat.zero_add, ds_ h2 hi]; simpa using hj)
  simp [results, hr, e, e', asAddr, hl]
theorem gx_ (i j : Int × Int) (hi : on_ i) (hj : on_ j) : Tri Tryz.prog 182 #[ivV i, ivV j] [] [] (fun y : {y : (Int × Int) × Int // y = ez_ i j} => .tuple #[ivV y.1.1, .int .i64 y.1.2]) (fun _ => []) (fun _ => []) := by
  refine S_ Tryz.func182 rfl rfl Tryz.ntmps182 rfl fun v0 => ?_
  refine g_ (c_ (aM_ rfl rfl fun b1 => ?_))
  refine aM_ rfl rfl fun b2 => ?_
  refine Z_ at_ rfl fun b3 => ?_
  refine a_ (e_ rfl) rfl (d_ (b_ rfl (g_ (g_ (c_ (a_ (M_ 2 co_ ad_ rfl rfl rfl) rfl (a_ (M_ 1 co_ ad_ rfl rfl rfl) rfl (be_ mJ_ ad_ at_ rfl rfl rfl rfl rfl rfl fun b4 => ?_))))))))
  refine bU_ (List.flatMap ivC [i, j]) C_ rfl ?_
  refine K_ (mn_ [i, j] (some ⟨b4, 0, none⟩) 2 (by simp)) rfl x_ (fun v _ h => by exact ⟨h.1, trivial⟩) rfl fun _ => ?_
  refine a_ (e_ rfl) rfl (d_ (b_ rfl (g_ (c_ (a_ (f_ rfl) rfl (E_ (bF_ rfl rfl) rfl fun r1 hr1 => ?_))))))
  refine d_ (b_ rfl ?_)
  cases r1
  · skip
    replace hr1 := bw_ hr1
    refine A_ rfl (J_ (b_ rfl (g_ ?_)))
    refine cn_ ((b2, .cells #[.int .i64 (Prod.fst j), .int .i64 (Prod.snd j)] 196 (0, 0)) :: ((b1, .cells #[.int .i64 (Prod.fst i), .int .i64 (Prod.snd i)] 196 (0, 0)) :: [])) (by kernel_rfl) ?_
    refine P_ 6 [1, 2, 3, 4, 7, 8, 9, 10] (by kernel_rfl) (fun _ a b => ⟨a.tail, b⟩) (m_ rfl (h_ I_ rfl rfl rfl q_) rfl (m_ rfl (n_ 1 B_ rfl rfl rfl) rfl (m_ rfl (h_ I_ rfl rfl rfl q_) rfl (m_ rfl (n_ 0 B_ rfl rfl rfl) rfl (m_ rfl (h_ I_ rfl rfl rfl q_) rfl (m_ rfl (n_ 1 B_ rfl rfl rfl) rfl (m_ rfl (h_ I_ rfl rfl rfl q_) rfl (m_ rfl (n_ 0 B_ rfl rfl rfl) rfl (O_ ?_)))))))))
    refine L_ 0 rfl (by kernel_rfl) (K_ (ivGr_c) rfl x_ (fun _ _ _ => by exact trivial) rfl fun _ => ?_)
    refine d_ (p_ rfl (D_ (fun _ a b => ⟨a.tail, b⟩) (L_ 5 rfl (by kernel_rfl) (K_ (pA_ (Prod.fst i) (Prod.fst j)) rfl x_ (fun _ _ _ => by exact trivial) rfl fun _ => ?_))))
    refine d_ (p_ rfl (D_ (fun _ a b => ⟨a.tail, b⟩) (L_ 6 rfl (by kernel_rfl) (K_ (ivLe_c) rfl x_ (fun _ _ _ => by exact trivial) rfl fun _ => ?_))))
    refine d_ (p_ rfl (D_ (fun _ a b => ⟨a.tail, b⟩) (L_ 11 rfl (by kernel_rfl) (K_ (pz_ (Prod.snd i) (Prod.snd j)) rfl x_ (fun _ _ _ => by exact trivial) rfl fun _ => ?_))))
    refine d_ (p_ rfl (D_ (fun _ a b => ⟨a.tail, b⟩) (P_ 1 [12] (by kernel_rfl) (fun _ a b => ⟨a.tail, b⟩) (m_ rfl (ax_ fi_ rfl rfl) rfl (O_ (L_ 13 rfl (by kernel_rfl) (Q_ 0 ad_ rfl rfl rfl rfl rfl rfl (d_ (p_ rfl ?_)))))))))
    refine D_ (fun _ a b => ⟨a.tail, b⟩) (T_ (by kernel_rfl) (b_ rfl (g_ (g_ (c_ (a_ (h_ I_ rfl rfl rfl q_) rfl (a_ (n_ 0 B_ rfl rfl rfl) rfl (a_ (h_ I_ rfl rfl rfl q_) rfl (a_ (n_ 0 B_ rfl rfl rfl) rfl ?_)))))))))
    refine E_ (bp_ rfl rfl) rfl fun r2 hr2 => ?_
    refine d_ (b_ rfl ?_)
    cases r2
    · skip
      replace hr2 := of_decide_eq_false hr2
      refine A_ rfl (J_ (b_ rfl (g_ (c_ (a_ (M_ 0 co_ ad_ rfl rfl rfl) rfl (Q_ 0 ad_ rfl rfl rfl rfl rfl rfl (a_ (e_ rfl) rfl (d_ (b_ rfl ?_)))))))))
      refine u_ ?_
      have hz : ez_ i j = (((max (Prod.fst i) (Prod.fst j)), (min (Prod.snd i) (Prod.snd j))), 0) := by unfold ez_; first | rw [if_pos (by omega)] | rw [if_neg (by omega)]
      exact et_ ⟨ez_ i j, rfl⟩ (fun aa v h1 h2 => by rw [hz]; exact nT_ 0 Tryz.results182 co_ ad_ rfl rfl rfl rfl aa v h1 h2) x_ (fun _ _ _ => trivial)
    · skip
      replace hr2 := of_decide_eq_true hr2
      refine w_ rfl (g_ (c_ (a_ (ax_ fi_ rfl rfl) rfl (Q_ 0 ad_ rfl rfl rfl rfl rfl rfl (a_ (e_ rfl) rfl (d_ (b_ rfl (u_ ?_))))))))
      have hz : ez_ i j = ((0, 0), 80) := by unfold ez_; first | rw [if_pos (by omega)] | rw [if_neg (by omega)]
      exact et_ ⟨ez_ i j, rfl⟩ (fun aa v h1 h2 => by rw [hz]; exact nT_ 0 Tryz.results182 co_ ad_ rfl rfl rfl rfl aa v h1 h2) x_ (fun _ _ _ => trivial)
  · skip
    replace hr1 := bv_ hr1
    exfalso; exact hr1 (mX_ hi hj)
theorem jb_ (feat : Str) (kn : Str → Bool) (q : List Str) (hkn : ∀ s, kn s = true ↔ s ∈ q) (es : Array MapEntry) (ec : Nat) (hE : SetE str es q) (vb ab : Nat) (pv fv : Value) (x : Pc) (f ga : Fc) (lad : Option Addr) (lcap : Nat) : TriX Tryz.prog 183 #[.agg #[zp_ vb 0, .int .i64 (Fc.kind f), str (Fc.a f), str (Fc.b f), str (Fc.r f), .int .i64 (Fc.lo f), .int .i64 (Fc.hi f), .slice lad (List.length [ga]) lcap, .int .i64 (Pc.kind x), str (Pc.a x), str (Pc.b x), str (Pc.c x), str (Pc.r x), str (Pc.s x), str (Pc.t x), .int .i64 (Pc.lo x), .int .i64 (Pc.hi x), .int .i64 (Pc.frm x)], .int .i64 0, str feat] [] [cp_ vb (.cells (dc_ pv ab fv).toArray 83 (0, 0)), cp_ ab (.map es ec), aY_ lad (List.flatMap Fc.cells [ga])] (fun _ : {u : Unit // ga = am_ (Fc.a f) feat (Fc.lo ga) (Fc.hi ga)} => .agg #[.int .i64 (Fc.lo ga), .int .i64 (Fc.hi ga)]) (fun _ => []) (fun _ => []) (¬ ga = am_ (Fc.a f) feat (Fc.lo ga) (Fc.hi ga)) := by
  refine bq_ Tryz.func183 rfl rfl Tryz.ntmps183 rfl fun v0 => ?_
  refine g_ (c_ (aM_ rfl rfl fun b1 => ?_))
  refine Z_ at_ rfl fun b2 => ?_
  refine d_ (b_ rfl (g_ (c_ (a_ (h_ j_ rfl rfl rfl aN_) rfl (a_ (n_ 1 bn_ rfl rfl rfl) rfl (a_ (f_ rfl) rfl (a_ (an_ ai_ l_ rfl rfl (fun v _ h => ba_ (n := 6) Fc.cells_len (by decide) (by exact h.2.2.1) (show [ga][0]? = some _ from rfl)) (by omega) (by first | omega | (simp; done))) rfl (a_ (aX_ (ad := lad) (us := Fc.cells ga) U_ l_ rfl (fun v _ h => by exact h.2.2.1) (Fc.cells_len _) (ar_ Fc.cells_len (show [ga][0]? = some _ from rfl))) rfl (Z_ bl_ rfl fun b3 => ?_)))))))))
  refine Q_ 0 l_ rfl rfl rfl rfl rfl rfl (d_ (b_ rfl (g_ ?_)))
  refine aW_ (by kernel_rfl) ?_
  refine P_ 3 [0, 1, 2, 3, 4, 5, 6, 7, 8] (by kernel_rfl) (fun _ a b => ⟨a, b⟩) (m_ rfl (M_ 0 U_ l_ rfl rfl rfl) rfl (m_ rfl (h_ j_ rfl rfl rfl l_) rfl (m_ rfl (h_ o_ rfl rfl rfl y_) rfl (m_ rfl (n_ 2 H_ rfl rfl rfl) rfl (m_ rfl (f_ rfl) rfl (m_ rfl (h_ o_ rfl rfl rfl q_) rfl (m_ rfl (n_ 0 B_ rfl rfl rfl) rfl (m_ rfl (h_ o_ rfl rfl rfl q_) rfl (m_ rfl (n_ 0 B_ rfl rfl rfl) rfl ?_)))))))))
  refine O_ (L_ 9 rfl (by kernel_rfl) (K_ (el_ (Fc.a f) feat (Fc.lo ga) (Fc.hi ga)) rfl x_ (fun _ _ _ => by exact trivial) rfl fun _ => ?_))
  refine d_ (p_ rfl (D_ (fun _ a b => ⟨a, b⟩) (P_ 1 [10] (by kernel_rfl) (fun _ a b => ⟨a, b⟩) ?_)))
  refine bJ_ rfl (av_ (p := ga) (q := (am_ (Fc.a f) feat (Fc.lo ga) (Fc.hi ga))) rfl rfl) rfl fun r1 hr1 => ?_
  refine O_ (L_ 11 rfl (by kernel_rfl) (ao_ (dl_ r1) rfl x_ (fun _ _ _ => by exact trivial) rfl (fun hb => cA_ ((by rw [hb] at hr1; exact of_decide_eq_false hr1))) fun ⟨_, hn1⟩ => ?_))
  try dsimp only
  have hspn : ga = am_ (Fc.a f) feat (Fc.lo ga) (Fc.hi ga) := of_decide_eq_true (hr1.trans hn1)
  refine d_ (p_ rfl (D_ (fun _ a b => ⟨a, b⟩) (T_ (by kernel_rfl) (b_ rfl (g_ (c_ (a_ (h_ o_ rfl rfl rfl q_) rfl (a_ (n_ 0 B_ rfl rfl rfl) rfl (a_ (h_ o_ rfl rfl rfl q_) rfl ?_)))))))))
  refine a_ (n_ 0 B_ rfl rfl rfl) rfl (a_ (ax_ fi_ rfl rfl) rfl (Q_ 1 ad_ rfl rfl rfl rfl rfl rfl (d_ (b_ rfl (u_ ?_)))))
  refine ci_ ?_
  exact et_ ⟨(), hspn⟩ (fun aa v h1 h2 => cG_ (us := [_, _]) 1 Tryz.results183 co_ ad_ rfl rfl rfl aa v h1 h2) x_ (fun _ _ _ => trivial)
theorem dW_ (feat : Str) (kn : Str → Bool) (q : List Str) (hkn : ∀ s, kn s = true ↔ s ∈ q) (es : Array MapEntry) (ec : Nat) (hE : SetE str es q) (vb ab : Nat) (pv fv : Value) (x : Pc) (f ga gb : Fc) (lad : Option Addr) (lcap : Nat) : TriX Tryz.prog 183 #[.agg #[zp_ vb 0, .int .i64 (Fc.kind f), str (Fc.a f), str (Fc.b f), str (Fc.r f), .int .i64 (Fc.lo f), .int .i64 (Fc.hi f), .slice lad (List.length [ga, gb]) lcap, .int .i64 (Pc.kind x), str (Pc.a x), str (Pc.b x), str (Pc.c x), str (Pc.r x), str (Pc.s x), str (Pc.t x), .int .i64 (Pc.lo x), .int .i64 (Pc.hi x), .int .i64 (Pc.frm x)], .int .i64 0, str feat] [] [cp_ vb (.cells (dc_ pv ab fv).toArray 83 (0, 0)), cp_ ab (.map es ec), aY_ lad (List.flatMap Fc.cells [ga, gb])] (fun _ : {u : Unit // ga = am_ (Fc.a f) feat (Fc.lo ga) (Fc.hi ga)} => .agg #[.int .i64 (Fc.lo ga), .int .i64 (Fc.hi ga)]) (fun _ => []) (fun _ => []) (¬ ga = am_ (Fc.a f) feat (Fc.lo ga) (Fc.hi ga)) := by
  refine bq_ Tryz.func183 rfl rfl Tryz.ntmps183 rfl fun v0 => ?_
  refine g_ (c_ (aM_ rfl rfl fun b1 => ?_))
  refine Z_ at_ rfl fun b2 => ?_
  refine d_ (b_ rfl (g_ (c_ (a_ (h_ j_ rfl rfl rfl aN_) rfl (a_ (n_ 1 bn_ rfl rfl rfl) rfl (a_ (f_ rfl) rfl (a_ (an_ ai_ l_ rfl rfl (fun v _ h => ba_ (n := 6) Fc.cells_len (by decide) (by exact h.2.2.1) (show [ga, gb][0]? = some _ from rfl)) (by omega) (by first | omega | (simp; done))) rfl (a_ (aX_ (ad := lad) (us := Fc.cells ga) U_ l_ rfl (fun v _ h => by exact h.2.2.1) (Fc.cells_len _) (ar_ Fc.cells_len (show [ga, gb][0]? = some _ from rfl))) rfl (Z_ bl_ rfl fun b3 => ?_)))))))))
  refine Q_ 0 l_ rfl rfl rfl rfl rfl rfl (d_ (b_ rfl (g_ ?_)))
  refine aW_ (by kernel_rfl) ?_
  refine P_ 3 [0, 1, 2, 3, 4, 5, 6, 7, 8] (by kernel_rfl) (fun _ a b => ⟨a, b⟩) (m_ rfl (M_ 0 U_ l_ rfl rfl rfl) rfl (m_ rfl (h_ j_ rfl rfl rfl l_) rfl (m_ rfl (h_ o_ rfl rfl rfl y_) rfl (m_ rfl (n_ 2 H_ rfl rfl rfl) rfl (m_ rfl (f_ rfl) rfl (m_ rfl (h_ o_ rfl rfl rfl q_) rfl (m_ rfl (n_ 0 B_ rfl rfl rfl) rfl (m_ rfl (h_ o_ rfl rfl rfl q_) rfl (m_ rfl (n_ 0 B_ rfl rfl rfl) rfl ?_)))))))))
  refine O_ (L_ 9 rfl (by kernel_rfl) (K_ (el_ (Fc.a f) feat (Fc.lo ga) (Fc.hi ga)) rfl x_ (fun _ _ _ => by exact trivial) rfl fun _ => ?_))
  refine d_ (p_ rfl (D_ (fun _ a b => ⟨a, b⟩) (P_ 1 [10] (by kernel_rfl) (fun _ a b => ⟨a, b⟩) ?_)))
  refine bJ_ rfl (av_ (p := ga) (q := (am_ (Fc.a f) feat (Fc.lo ga) (Fc.hi ga))) rfl rfl) rfl fun r1 hr1 => ?_
  refine O_ (L_ 11 rfl (by kernel_rfl) (ao_ (dl_ r1) rfl x_ (fun _ _ _ => by exact trivial) rfl (fun hb => cA_ ((by rw [hb] at hr1; exact of_decide_eq_false hr1))) fun ⟨_, hn1⟩ => ?_))
  try dsimp only
  have hspn : ga = am_ (Fc.a f) feat (Fc.lo ga) (Fc.hi ga) := of_decide_eq_true (hr1.trans hn1)
  refine d_ (p_ rfl (D_ (fun _ a b => ⟨a, b⟩) (T_ (by kernel_rfl) (b_ rfl (g_ (c_ (a_ (h_ o_ rfl rfl rfl q_) rfl (a_ (n_ 0 B_ rfl rfl rfl) rfl (a_ (h_ o_ rfl rfl rfl q_) rfl ?_)))))))))
  refine a_ (n_ 0 B_ rfl rfl rfl) rfl (a_ (ax_ fi_ rfl rfl) rfl (Q_ 1 ad_ rfl rfl rfl rfl rfl rfl (d_ (b_ rfl (u_ ?_)))))
  refine ci_ ?_
  exact et_ ⟨(), hspn⟩ (fun aa v h1 h2 => cG_ (us := [_, _]) 1 Tryz.results183 co_ ad_ rfl rfl rfl aa v h1 h2) x_ (fun _ _ _ => trivial)
theorem cx_ (feat : Str) (kn : Str → Bool) (q : List Str) (hkn : ∀ s, kn s = true ↔ s ∈ q) (es : Array MapEntry) (ec : Nat) (hE : SetE str es q) (vb ab : Nat) (pv fv : Value) (x : Pc) (f ga gb : Fc) (lad : Option Addr) (lcap : Nat) : TriX Tryz.prog 183 #[.agg #[zp_ vb 0, .int .i64 (Fc.kind f), str (Fc.a f), str (Fc.b f), str (Fc.r f), .int .i64 (Fc.lo f), .int .i64 (Fc.hi f), .slice lad (List.length [ga, gb]) lcap, .int .i64 (Pc.kind x), str (Pc.a x), str (Pc.b x), str (Pc.c x), str (Pc.r x), str (Pc.s x), str (Pc.t x), .int .i64 (Pc.lo x), .int .i64 (Pc.hi x), .int .i64 (Pc.frm x)], .int .i64 1, str feat] [] [cp_ vb (.cells (dc_ pv ab fv).toArray 83 (0, 0)), cp_ ab (.map es ec), aY_ lad (List.flatMap Fc.cells [ga, gb])] (fun _ : {u : Unit // gb = am_ (Fc.a f) feat (Fc.lo gb) (Fc.hi gb)} => .agg #[.int .i64 (Fc.lo gb), .int .i64 (Fc.hi gb)]) (fun _ => []) (fun _ => []) (¬ gb = am_ (Fc.a f) feat (Fc.lo gb) (Fc.hi gb)) := by
  refine bq_ Tryz.func183 rfl rfl Tryz.ntmps183 rfl fun v0 => ?_
  refine g_ (c_ (aM_ rfl rfl fun b1 => ?_))
  refine Z_ at_ rfl fun b2 => ?_
  refine d_ (b_ rfl (g_ (c_ (a_ (h_ j_ rfl rfl rfl aN_) rfl (a_ (n_ 1 bn_ rfl rfl rfl) rfl (a_ (f_ rfl) rfl (a_ (an_ ai_ l_ rfl rfl (fun v _ h => ba_ (n := 6) Fc.cells_len (by decide) (by exact h.2.2.1) (show [ga, gb][1]? = some _ from rfl)) (by omega) (by first | omega | (simp; done))) rfl (a_ (aX_ (ad := lad) (us := Fc.cells gb) U_ l_ rfl (fun v _ h => by exact h.2.2.1) (Fc.cells_len _) (ar_ Fc.cells_len (show [ga, gb][1]? = some _ from rfl))) rfl (Z_ bl_ rfl fun b3 => ?_)))))))))
  refine Q_ 0 l_ rfl rfl rfl rfl rfl rfl (d_ (b_ rfl (g_ ?_)))
  refine aW_ (by kernel_rfl) ?_
  refine P_ 3 [0, 1, 2, 3, 4, 5, 6, 7, 8] (by kernel_rfl) (fun _ a b => ⟨a, b⟩) (m_ rfl (M_ 0 U_ l_ rfl rfl rfl) rfl (m_ rfl (h_ j_ rfl rfl rfl l_) rfl (m_ rfl (h_ o_ rfl rfl rfl y_) rfl (m_ rfl (n_ 2 H_ rfl rfl rfl) rfl (m_ rfl (f_ rfl) rfl (m_ rfl (h_ o_ rfl rfl rfl q_) rfl (m_ rfl (n_ 0 B_ rfl rfl rfl) rfl (m_ rfl (h_ o_ rfl rfl rfl q_) rfl (m_ rfl (n_ 0 B_ rfl rfl rfl) rfl ?_)))))))))
  refine O_ (L_ 9 rfl (by kernel_rfl) (K_ (el_ (Fc.a f) feat (Fc.lo gb) (Fc.hi gb)) rfl x_ (fun _ _ _ => by exact trivial) rfl fun _ => ?_))
  refine d_ (p_ rfl (D_ (fun _ a b => ⟨a, b⟩) (P_ 1 [10] (by kernel_rfl) (fun _ a b => ⟨a, b⟩) ?_)))
  refine bJ_ rfl (av_ (p := gb) (q := (am_ (Fc.a f) feat (Fc.lo gb) (Fc.hi gb))) rfl rfl) rfl fun r1 hr1 => ?_
  refine O_ (L_ 11 rfl (by kernel_rfl) (ao_ (dl_ r1) rfl x_ (fun _ _ _ => by exact trivial) rfl (fun hb => cA_ ((by rw [hb] at hr1; exact of_decide_eq_false hr1))) fun ⟨_, hn1⟩ => ?_))
  try dsimp only
  have hspn : gb = am_ (Fc.a f) feat (Fc.lo gb) (Fc.hi gb) := of_decide_eq_true (hr1.trans hn1)
  refine d_ (p_ rfl (D_ (fun _ a b => ⟨a, b⟩) (T_ (by kernel_rfl) (b_ rfl (g_ (c_ (a_ (h_ o_ rfl rfl rfl q_) rfl (a_ (n_ 0 B_ rfl rfl rfl) rfl (a_ (h_ o_ rfl rfl rfl q_) rfl ?_)))))))))
  refine a_ (n_ 0 B_ rfl rfl rfl) rfl (a_ (ax_ fi_ rfl rfl) rfl (Q_ 1 ad_ rfl rfl rfl rfl rfl rfl (d_ (b_ rfl (u_ ?_)))))
  refine ci_ ?_
  exact et_ ⟨(), hspn⟩ (fun aa v h1 h2 => cG_ (us := [_, _]) 1 Tryz.results183 co_ ad_ rfl rfl rfl aa v h1 h2) x_ (fun _ _ _ => trivial)
end Go.Proofs.YtaffcjgphlhppaaGreatDoor
