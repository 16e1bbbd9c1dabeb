/-
  Part of the proof of the law CheckerGrows over this seat: the small logic, the data, the contracts of functions (no condition).
-/
import Derived.Test.YtaffcjgphlhppaaGreatDoorQCheckerGrows7
set_option linter.unusedVariables false
set_option linter.unusedSimpArgs false
set_option linter.unusedSectionVars false
namespace Go.Proofs.YtaffcjgphlhppaaGreatDoor
open Go Go.Sx Go.Proofs
attribute [local irreducible] Code.wp wpList wpAnyH
open Go.Vs
theorem in_ : KeyT Tryz.prog 9 str := ng_ dj_
theorem gl_ {P : Program} {N : Nf} {fr : Fr} {H : Hp} {Γ : List Fct} {op : Op} {ty : TypeId} {kn : Str → Bool} {q : List Str} {k : Str} (hkn : ∀ s, kn s = true ↔ s ∈ q) {i : Decidable (k ∈ q)} (h : Yld P N fr H Γ op ty (.bool (@decide (k ∈ q) i))) : Yld P N fr H Γ op ty (.bool (kn k)) := by
  have e : @decide (k ∈ q) i = kn k := by rw [Bool.eq_iff_iff, hkn]; exact decide_eq_true_iff
  rwa [e] at h
def gK_ : List Value := [.int .i64 0, .int .i64 0, .nilFunc, .int .i64 0, .int .i64 0, .func (.func 128) #[] #[], .int .i64 0, .int .i64 0, .func (.func 130) #[] #[], .int .i64 1, .int .i64 1, .func (.func 131) #[] #[], .int .i64 2, .int .i64 2, .func (.func 132) #[] #[], .int .i64 1, .int .i64 3, .func (.func 133) #[] #[], .int .i64 1, .int .i64 5, .func (.func 135) #[] #[], .int .i64 2, .int .i64 6, .func (.func 136) #[] #[], .int .i64 2, .int .i64 4, .func (.func 137) #[] #[], .int .i64 2, .int .i64 0, .func (.func 138) #[] #[], .int .i64 0, .int .i64 7, .func (.func 139) #[] #[], .int .i64 1, .int .i64 8, .func (.func 140) #[] #[], .int .i64 2, .int .i64 0, .func (.func 141) #[] #[], .int .i64 2, .int .i64 0, .func (.func 142) #[] #[], .int .i64 1, .int .i64 9, .func (.func 143) #[] #[], .int .i64 1, .int .i64 0, .func (.func 144) #[] #[], .int .i64 1, .int .i64 0, .func (.func 145) #[] #[]]
def cC_ (pv : Value) (ab : Nat) (fv : Value) : List Value := pv :: .map (some ab) :: fv :: gK_
theorem kW_ : gy_ Tryz.prog 145 [(0, 1), (1, 6), (7, 1), (8, 10)] [.pointer none, .int .i64 0, str [], str [], str [], .int .i64 0, .int .i64 0, .slice none 0 0, .int .i64 0, str [], str [], str [], str [], str [], str [], .int .i64 0, .int .i64 0, .int .i64 0] := ⟨_, Tryz.zeroValue145, i_, fun w => by simp [k_, aF_, ai_, Tryz.sizeOf74]⟩
set_option maxHeartbeats 1000000 in
theorem oA_ (kn : Str → Bool) (q : List Str) (hkn : ∀ s, kn s = true ↔ s ∈ q) (es : Array MapEntry) (ec : Nat) (hE : SetE str es q) (vb ab : Nat) (pv fv : Value) (x : Pc) (f : Fc) (lad : Option Addr) (lcap : Nat) : Tri Tryz.prog 128 #[.agg #[zp_ vb 0, .int .i64 (Fc.kind f), str (Fc.a f), str (Fc.b f), str (Fc.r f), .int .i64 (Fc.lo f), .int .i64 (Fc.hi f), .slice lad (List.length ([] : List Fc)) lcap, .int .i64 (Pc.kind x), str (Pc.a x), str (Pc.b x), str (Pc.c x), str (Pc.r x), str (Pc.s x), str (Pc.t x), .int .i64 (Pc.lo x), .int .i64 (Pc.hi x), .int .i64 (Pc.frm x)]] [] [bV_ vb (.cells (cC_ pv ab fv).toArray 83 (0, 0)), bV_ ab (.map es ec), aR_ lad (List.flatMap Fc.cells ([] : List Fc))] (fun _ : Unit => .bool (nq_ kn x f zfc zfc)) (fun _ => []) (fun _ => []) := by
  refine T_ Tryz.func128 rfl rfl Tryz.ntmps128 rfl fun v0 => ?_
  refine g_ (c_ (aL_ rfl rfl fun b1 => ?_))
  refine a_ (e_ rfl) rfl (d_ (b_ rfl (g_ ?_)))
  refine aI_ (by kernel_rfl) ?_
  refine K_ 12 [0, 1, 2, 3, 4, 5, 6, 7, 8, 9] (by kernel_rfl) (fun _ a b => ⟨a, b⟩) (j_ rfl (h_ i_ rfl rfl rfl Tryz.sizeOf74) rfl (j_ rfl (m_ 0 Tryz.isAgg74 rfl rfl rfl) rfl (j_ rfl (aY_ rfl) rfl (j_ rfl (h_ ba_ rfl rfl rfl pb_) rfl (j_ rfl (cT_ Tryz.isAgg77 rfl (fun v _ h => by exact h.1) rfl) rfl (j_ rfl (h_ i_ rfl rfl rfl k_) rfl (j_ rfl (h_ o_ rfl rfl rfl x_) rfl (j_ rfl (m_ 0 F_ rfl rfl rfl) rfl ?_))))))))
  refine bk_ rfl (gl_ hkn (eW_ (k := (Fc.a f)) in_ dT_ Tryz.zeroValue4 rfl rfl hE (fun v _ h => (by exact h.2.1 : (bV_ ab (.map es ec)).p v).2))) rfl fun r1 hr1 => ?_
  refine j_ rfl (f_ rfl) rfl (J_ ?_)
  cases r1
  · skip
    refine K_ 0 [10, 11, 12, 13, 14, 15, 16, 17, 18, 19, 20, 21] (by kernel_rfl) (fun _ a b => ⟨a, b⟩) (v_ rfl rfl rfl rfl rfl (v_ rfl rfl rfl rfl rfl (v_ rfl rfl rfl rfl rfl (v_ rfl rfl rfl rfl rfl (v_ rfl rfl rfl rfl rfl (v_ rfl rfl rfl rfl rfl (v_ rfl rfl rfl rfl rfl (v_ rfl rfl rfl rfl rfl (v_ rfl rfl rfl rfl rfl ?_)))))))))
    refine v_ rfl rfl rfl rfl rfl (j_ rfl (t_ rfl rfl) rfl (j_ rfl (e_ rfl) rfl (J_ (S_ (by kernel_rfl) (b_ rfl (u_ ?_))))))
    exact Y_ Tryz.results128 () (s_ rfl (by simp only [nq_, hr1, if_true, if_false, decide_true, decide_false, Bool.and_true, Bool.and_false, Bool.true_and, Bool.false_and, Bool.or_true, Bool.or_false, Bool.true_or, Bool.false_or, Bool.not_true, Bool.not_false, ne_eq, not_true_eq_false, not_false_eq_true, true_and, and_true, false_and, and_false, true_or, or_true, false_or, or_false, ite_true, ite_false, Bool.false_eq_true])) B_ (fun _ _ _ => trivial)
  · skip
    refine K_ 4 [10, 11, 12, 13, 14, 15, 16, 17] (by kernel_rfl) (fun _ a b => ⟨a, b⟩) (p_ rfl rfl rfl (h_ i_ rfl rfl rfl k_) rfl (p_ rfl rfl rfl (O_ 0 R_ k_ rfl rfl rfl) rfl (p_ rfl rfl rfl (h_ i_ rfl rfl rfl k_) rfl (p_ rfl rfl rfl (h_ o_ rfl rfl rfl x_) rfl (p_ rfl rfl rfl (m_ 0 F_ rfl rfl rfl) rfl (p_ rfl rfl rfl (h_ i_ rfl rfl rfl k_) rfl (p_ rfl rfl rfl (h_ o_ rfl rfl rfl x_) rfl (p_ rfl rfl rfl (m_ 0 F_ rfl rfl rfl) rfl (J_ ?_)))))))))
    refine I_ 18 rfl (by kernel_rfl) (l_ rfl rfl (P_ (by_ (Fc.a f) (Fc.a f)) rfl B_ (fun _ _ _ => by exact trivial) rfl fun _ => ?_))
    refine d_ (q_ rfl (A_ (fun _ a b => ⟨a, b⟩) (K_ 0 [19, 20, 21] (by kernel_rfl) (fun _ a b => ⟨a, b⟩) ?_)))
    refine ar_ rfl rfl rfl (ap_ (p := f) (q := (aE_ (Fc.a f) (Fc.a f))) rfl rfl) rfl fun r2 hr2 => ?_
    refine j_ rfl (z_ rfl rfl) rfl (j_ rfl (e_ rfl) rfl (J_ (S_ (by kernel_rfl) (b_ rfl (u_ ?_)))))
    exact Y_ Tryz.results128 () (s_ rfl (by rw [← hr2]; simp only [nq_, hr1, if_true, if_false, decide_true, decide_false, Bool.and_true, Bool.and_false, Bool.true_and, Bool.false_and, Bool.or_true, Bool.or_false, Bool.true_or, Bool.false_or, Bool.not_true, Bool.not_false, ne_eq, not_true_eq_false, not_false_eq_true, true_and, and_true, false_and, and_false, true_or, or_true, false_or, or_false, ite_true, ite_false, Bool.false_eq_true])) B_ (fun _ _ _ => trivial)
set_option maxHeartbeats 1000000 in
theorem oz_ (kn : Str → Bool) (q : List Str) (hkn : ∀ s, kn s = true ↔ s ∈ q) (es : Array MapEntry) (ec : Nat) (hE : SetE str es q) (vb ab : Nat) (pv fv : Value) (x : Pc) (f : Fc) (lad : Option Addr) (lcap : Nat) : Tri Tryz.prog 130 #[.agg #[zp_ vb 0, .int .i64 (Fc.kind f), str (Fc.a f), str (Fc.b f), str (Fc.r f), .int .i64 (Fc.lo f), .int .i64 (Fc.hi f), .slice lad (List.length ([] : List Fc)) lcap, .int .i64 (Pc.kind x), str (Pc.a x), str (Pc.b x), str (Pc.c x), str (Pc.r x), str (Pc.s x), str (Pc.t x), .int .i64 (Pc.lo x), .int .i64 (Pc.hi x), .int .i64 (Pc.frm x)]] [] [bV_ vb (.cells (cC_ pv ab fv).toArray 83 (0, 0)), bV_ ab (.map es ec), aR_ lad (List.flatMap Fc.cells ([] : List Fc))] (fun _ : Unit => .bool (no_ kn x f zfc zfc)) (fun _ => []) (fun _ => []) := by
  refine T_ Tryz.func130 rfl rfl Tryz.ntmps130 rfl fun v0 => ?_
  refine g_ (c_ (aL_ rfl rfl fun b1 => ?_))
  refine a_ (e_ rfl) rfl (d_ (b_ rfl (g_ ?_)))
  refine aI_ (by kernel_rfl) ?_
  refine K_ 9 [0, 1, 2, 3, 4, 5, 6, 7, 8, 9] (by kernel_rfl) (fun _ a b => ⟨a, b⟩) (j_ rfl (h_ i_ rfl rfl rfl Tryz.sizeOf74) rfl (j_ rfl (m_ 0 Tryz.isAgg74 rfl rfl rfl) rfl (j_ rfl (aY_ rfl) rfl (j_ rfl (h_ ba_ rfl rfl rfl pb_) rfl (j_ rfl (cT_ Tryz.isAgg77 rfl (fun v _ h => by exact h.1) rfl) rfl (j_ rfl (h_ i_ rfl rfl rfl k_) rfl (j_ rfl (h_ o_ rfl rfl rfl x_) rfl (j_ rfl (m_ 0 F_ rfl rfl rfl) rfl ?_))))))))
  refine bk_ rfl (gl_ hkn (eW_ (k := (Fc.a f)) in_ dT_ Tryz.zeroValue4 rfl rfl hE (fun v _ h => (by exact h.2.1 : (bV_ ab (.map es ec)).p v).2))) rfl fun r1 hr1 => ?_
  refine j_ rfl (f_ rfl) rfl (J_ ?_)
  cases r1
  · skip
    refine K_ 0 [10, 11, 12, 13, 14, 15, 16, 17, 18] (by kernel_rfl) (fun _ a b => ⟨a, b⟩) (v_ rfl rfl rfl rfl rfl (v_ rfl rfl rfl rfl rfl (v_ rfl rfl rfl rfl rfl (v_ rfl rfl rfl rfl rfl (v_ rfl rfl rfl rfl rfl (v_ rfl rfl rfl rfl rfl (v_ rfl rfl rfl rfl rfl (j_ rfl (t_ rfl rfl) rfl (j_ rfl (e_ rfl) rfl ?_)))))))))
    refine J_ (S_ (by kernel_rfl) (b_ rfl (u_ ?_)))
    exact Y_ Tryz.results130 () (s_ rfl (by simp only [no_, hr1, if_true, if_false, decide_true, decide_false, Bool.and_true, Bool.and_false, Bool.true_and, Bool.false_and, Bool.or_true, Bool.or_false, Bool.true_or, Bool.false_or, Bool.not_true, Bool.not_false, ne_eq, not_true_eq_false, not_false_eq_true, true_and, and_true, false_and, and_false, true_or, or_true, false_or, or_false, ite_true, ite_false, Bool.false_eq_true])) B_ (fun _ _ _ => trivial)
  · skip
    refine K_ 4 [10, 11, 12, 13, 14] (by kernel_rfl) (fun _ a b => ⟨a, b⟩) (p_ rfl rfl rfl (h_ i_ rfl rfl rfl k_) rfl (p_ rfl rfl rfl (O_ 0 R_ k_ rfl rfl rfl) rfl (p_ rfl rfl rfl (h_ i_ rfl rfl rfl k_) rfl (p_ rfl rfl rfl (h_ o_ rfl rfl rfl x_) rfl (p_ rfl rfl rfl (m_ 0 F_ rfl rfl rfl) rfl (J_ (I_ 15 rfl (by kernel_rfl) (l_ rfl rfl (P_ (by_ (Fc.a f) [42]) rfl B_ (fun _ _ _ => by exact trivial) rfl fun _ => ?_)))))))))
    refine d_ (q_ rfl (A_ (fun _ a b => ⟨a, b⟩) (K_ 0 [16, 17, 18] (by kernel_rfl) (fun _ a b => ⟨a, b⟩) ?_)))
    refine ar_ rfl rfl rfl (ap_ (p := f) (q := (aE_ (Fc.a f) [42])) rfl rfl) rfl fun r2 hr2 => ?_
    refine j_ rfl (z_ rfl rfl) rfl (j_ rfl (e_ rfl) rfl (J_ (S_ (by kernel_rfl) (b_ rfl (u_ ?_)))))
    exact Y_ Tryz.results130 () (s_ rfl (by rw [← hr2]; simp only [no_, hr1, if_true, if_false, decide_true, decide_false, Bool.and_true, Bool.and_false, Bool.true_and, Bool.false_and, Bool.or_true, Bool.or_false, Bool.true_or, Bool.false_or, Bool.not_true, Bool.not_false, ne_eq, not_true_eq_false, not_false_eq_true, true_and, and_true, false_and, and_false, true_or, or_true, false_or, or_false, ite_true, ite_false, Bool.false_eq_true])) B_ (fun _ _ _ => trivial)
set_option maxHeartbeats 1000000 in
theorem oy_ (kn : Str → Bool) (q : List Str) (hkn : ∀ s, kn s = true ↔ s ∈ q) (es : Array MapEntry) (ec : Nat) (hE : SetE str es q) (vb ab : Nat) (pv fv : Value) (x : Pc) (f ga : Fc) (lad : Option Addr) (lcap : Nat) : Tri Tryz.prog 131 #[.agg #[zp_ vb 0, .int .i64 (Fc.kind f), str (Fc.a f), str (Fc.b f), str (Fc.r f), .int .i64 (Fc.lo f), .int .i64 (Fc.hi f), .slice lad (List.length [ga]) lcap, .int .i64 (Pc.kind x), str (Pc.a x), str (Pc.b x), str (Pc.c x), str (Pc.r x), str (Pc.s x), str (Pc.t x), .int .i64 (Pc.lo x), .int .i64 (Pc.hi x), .int .i64 (Pc.frm x)]] [] [bV_ vb (.cells (cC_ pv ab fv).toArray 83 (0, 0)), bV_ ab (.map es ec), aR_ lad (List.flatMap Fc.cells [ga])] (fun _ : Unit => .bool (oI_ kn x f ga zfc)) (fun _ => []) (fun _ => []) := by
  refine T_ Tryz.func131 rfl rfl Tryz.ntmps131 rfl fun v0 => ?_
  refine g_ (c_ (aL_ rfl rfl fun b1 => ?_))
  refine a_ (e_ rfl) rfl (d_ (b_ rfl (g_ ?_)))
  refine aI_ (by kernel_rfl) ?_
  refine K_ 15 [0, 1, 2, 3, 4, 5, 6, 7, 8, 9] (by kernel_rfl) (fun _ a b => ⟨a, b⟩) (j_ rfl (h_ i_ rfl rfl rfl aF_) rfl (j_ rfl (m_ 0 bb_ rfl rfl rfl) rfl (j_ rfl (ah_ ag_ k_ rfl rfl (fun v _ h => aN_ (n := 6) Fc.cells_len (by decide) (by exact h.2.2.1) (show [ga][0]? = some _ from rfl)) (by omega) (by first | omega | (simp; done))) rfl (j_ rfl (aM_ (ad := lad) (us := Fc.cells ga) R_ k_ rfl (fun v _ h => by exact h.2.2.1) (Fc.cells_len _) (ak_ Fc.cells_len (show [ga][0]? = some _ from rfl))) rfl (j_ rfl (h_ i_ rfl rfl rfl k_) rfl (j_ rfl (h_ o_ rfl rfl rfl x_) rfl (j_ rfl (m_ 0 F_ rfl rfl rfl) rfl (j_ rfl (h_ i_ rfl rfl rfl ai_) rfl (j_ rfl (h_ M_ rfl rfl rfl x_) rfl ?_)))))))))
  refine j_ rfl (m_ 0 F_ rfl rfl rfl) rfl (J_ (I_ 10 rfl (by kernel_rfl) (P_ (by_ (Fc.a f) (Pc.a x)) rfl B_ (fun _ _ _ => by exact trivial) rfl fun _ => ?_)))
  refine d_ (q_ rfl (A_ (fun _ a b => ⟨a, b⟩) (K_ 12 [11, 12] (by kernel_rfl) (fun _ a b => ⟨a, b⟩) ?_)))
  refine bk_ rfl (ap_ (p := ga) (q := (aE_ (Fc.a f) (Pc.a x))) rfl rfl) rfl fun r1 hr1 => ?_
  refine j_ rfl (f_ rfl) rfl (J_ ?_)
  cases r1
  · skip
    replace hr1 := of_decide_eq_false hr1
    refine K_ 0 [13, 14, 15, 16, 17, 18, 19, 20, 21, 22, 23, 24] (by kernel_rfl) (fun _ a b => ⟨a, b⟩) (v_ rfl rfl rfl rfl rfl (v_ rfl rfl rfl rfl rfl (v_ rfl rfl rfl rfl rfl (v_ rfl rfl rfl rfl rfl (v_ rfl rfl rfl rfl rfl (v_ rfl rfl rfl rfl rfl (v_ rfl rfl rfl rfl rfl (v_ rfl rfl rfl rfl rfl (v_ rfl rfl rfl rfl rfl ?_)))))))))
    refine v_ rfl rfl rfl rfl rfl (j_ rfl (t_ rfl rfl) rfl (j_ rfl (e_ rfl) rfl (J_ (S_ (by kernel_rfl) (b_ rfl (u_ ?_))))))
    exact Y_ Tryz.results131 () (s_ rfl (by have p1 := eq_false hr1; simp only [oI_, p1, if_true, if_false, decide_true, decide_false, Bool.and_true, Bool.and_false, Bool.true_and, Bool.false_and, Bool.or_true, Bool.or_false, Bool.true_or, Bool.false_or, Bool.not_true, Bool.not_false, ne_eq, not_true_eq_false, not_false_eq_true, true_and, and_true, false_and, and_false, true_or, or_true, false_or, or_false, ite_true, ite_false, Bool.false_eq_true])) B_ (fun _ _ _ => trivial)
  · skip
    replace hr1 := of_decide_eq_true hr1
    refine K_ 4 [13, 14, 15, 16, 17, 18, 19, 20] (by kernel_rfl) (fun _ a b => ⟨a, b⟩) (p_ rfl rfl rfl (h_ i_ rfl rfl rfl k_) rfl (p_ rfl rfl rfl (O_ 0 R_ k_ rfl rfl rfl) rfl (p_ rfl rfl rfl (h_ i_ rfl rfl rfl k_) rfl (p_ rfl rfl rfl (h_ o_ rfl rfl rfl x_) rfl (p_ rfl rfl rfl (m_ 0 F_ rfl rfl rfl) rfl (p_ rfl rfl rfl (h_ i_ rfl rfl rfl ai_) rfl (p_ rfl rfl rfl (h_ M_ rfl rfl rfl x_) rfl (p_ rfl rfl rfl (m_ 0 F_ rfl rfl rfl) rfl (J_ ?_)))))))))
    refine I_ 21 rfl (by kernel_rfl) (l_ rfl rfl (P_ (by_ (Fc.a f) (Pc.c x)) rfl B_ (fun _ _ _ => by exact trivial) rfl fun _ => ?_))
    refine d_ (q_ rfl (A_ (fun _ a b => ⟨a, b⟩) (K_ 0 [22, 23, 24] (by kernel_rfl) (fun _ a b => ⟨a, b⟩) ?_)))
    refine ar_ rfl rfl rfl (ap_ (p := f) (q := (aE_ (Fc.a f) (Pc.c x))) rfl rfl) rfl fun r2 hr2 => ?_
    refine j_ rfl (z_ rfl rfl) rfl (j_ rfl (e_ rfl) rfl (J_ (S_ (by kernel_rfl) (b_ rfl (u_ ?_)))))
    exact Y_ Tryz.results131 () (s_ rfl (by have p1 := eq_true hr1; rw [← hr2]; simp only [oI_, p1, if_true, if_false, decide_true, decide_false, Bool.and_true, Bool.and_false, Bool.true_and, Bool.false_and, Bool.or_true, Bool.or_false, Bool.true_or, Bool.false_or, Bool.not_true, Bool.not_false, ne_eq, not_true_eq_false, not_false_eq_true, true_and, and_true, false_and, and_false, true_or, or_true, false_or, or_false, ite_true, ite_false, Bool.false_eq_true])) B_ (fun _ _ _ => trivial)
set_option maxHeartbeats 1000000 in
theorem ox_ (kn : Str → Bool) (q : List Str) (hkn : ∀ s, kn s = true ↔ s ∈ q) (es : Array MapEntry) (ec : Nat) (hE : SetE str es q) (vb ab : Nat) (pv fv : Value) (x : Pc) (f ga gb : Fc) (lad : Option Addr) (lcap : Nat) : Tri Tryz.prog 132 #[.agg #[zp_ vb 0, .int .i64 (Fc.kind f), str (Fc.a f), str (Fc.b f), str (Fc.r f), .int .i64 (Fc.lo f), .int .i64 (Fc.hi f), .slice lad (List.length [ga, gb]) lcap, .int .i64 (Pc.kind x), str (Pc.a x), str (Pc.b x), str (Pc.c x), str (Pc.r x), str (Pc.s x), str (Pc.t x), .int .i64 (Pc.lo x), .int .i64 (Pc.hi x), .int .i64 (Pc.frm x)]] [] [bV_ vb (.cells (cC_ pv ab fv).toArray 83 (0, 0)), bV_ ab (.map es ec), aR_ lad (List.flatMap Fc.cells [ga, gb])] (fun _ : Unit => .bool (nn_ kn x f ga gb)) (fun _ => []) (fun _ => []) := by
 refine T_ Tryz.func132 rfl rfl Tryz.ntmps132 rfl fun v0 => ?_
 refine g_ (c_ (aL_ rfl rfl fun b1 => ?_))
 refine a_ (e_ rfl) rfl (d_ (b_ rfl (g_ ?_)))
 refine aI_ (by kernel_rfl) ?_
 refine K_ 29 [0, 1, 2, 3, 4, 5, 6, 7, 8, 9] (by kernel_rfl) (fun _ a b => ⟨a, b⟩) (j_ rfl (h_ i_ rfl rfl rfl aF_) rfl (j_ rfl (m_ 0 bb_ rfl rfl rfl) rfl (j_ rfl (ah_ ag_ k_ rfl rfl (fun v _ h => aN_ (n := 6) Fc.cells_len (by decide) (by exact h.2.2.1) (show [ga, gb][0]? = some _ from rfl)) (by omega) (by first | omega | (simp; done))) rfl (j_ rfl (aM_ (ad := lad) (us := Fc.cells ga) R_ k_ rfl (fun v _ h => by exact h.2.2.1) (Fc.cells_len _) (ak_ Fc.cells_len (show [ga, gb][0]? = some _ from rfl))) rfl (j_ rfl (h_ i_ rfl rfl rfl k_) rfl (j_ rfl (h_ o_ rfl rfl rfl x_) rfl (j_ rfl (m_ 0 F_ rfl rfl rfl) rfl (j_ rfl (h_ i_ rfl rfl rfl ai_) rfl (j_ rfl (h_ M_ rfl rfl rfl x_) rfl ?_)))))))))
 refine j_ rfl (m_ 0 F_ rfl rfl rfl) rfl (J_ (I_ 10 rfl (by kernel_rfl) (P_ (by_ (Fc.a f) (Pc.a x)) rfl B_ (fun _ _ _ => by exact trivial) rfl fun _ => ?_)))
 refine d_ (q_ rfl (A_ (fun _ a b => ⟨a, b⟩) (K_ 26 [11, 12] (by kernel_rfl) (fun _ a b => ⟨a, b⟩) ?_)))
 refine bk_ rfl (ap_ (p := ga) (q := (aE_ (Fc.a f) (Pc.a x))) rfl rfl) rfl fun r1 hr1 => ?_
 refine j_ rfl (f_ rfl) rfl (J_ ?_)
 cases r1
 ·
  replace hr1 := of_decide_eq_false hr1
  refine K_ 0 [13, 14, 15, 16, 17, 18, 19, 20, 21, 22, 23, 24, 25, 26, 27, 28, 29, 30, 31, 32, 33, 34, 35, 36, 37, 38] (by kernel_rfl) (fun _ a b => ⟨a, b⟩) (v_ rfl rfl rfl rfl rfl (v_ rfl rfl rfl rfl rfl (v_ rfl rfl rfl rfl rfl (v_ rfl rfl rfl rfl rfl (v_ rfl rfl rfl rfl rfl (v_ rfl rfl rfl rfl rfl (v_ rfl rfl rfl rfl rfl (v_ rfl rfl rfl rfl rfl (v_ rfl rfl rfl rfl rfl ?_)))))))))
  refine v_ rfl rfl rfl rfl rfl (v_ rfl rfl rfl rfl rfl (v_ rfl rfl rfl rfl rfl (j_ rfl (t_ rfl rfl) rfl (j_ rfl (f_ rfl) rfl (v_ rfl rfl rfl rfl rfl (v_ rfl rfl rfl rfl rfl (v_ rfl rfl rfl rfl rfl (v_ rfl rfl rfl rfl rfl (v_ rfl rfl rfl rfl rfl ?_)))))))))
  refine v_ rfl rfl rfl rfl rfl (v_ rfl rfl rfl rfl rfl (v_ rfl rfl rfl rfl rfl (v_ rfl rfl rfl rfl rfl (v_ rfl rfl rfl rfl rfl (j_ rfl (t_ rfl rfl) rfl (j_ rfl (e_ rfl) rfl (J_ (S_ (by kernel_rfl) (b_ rfl ?_)))))))))
  refine u_ ?_
  exact Y_ Tryz.results132 () (s_ rfl (by have p1 := eq_false hr1; simp only [nn_, p1, if_true, if_false, decide_true, decide_false, Bool.and_true, Bool.and_false, Bool.true_and, Bool.false_and, Bool.or_true, Bool.or_false, Bool.true_or, Bool.false_or, Bool.not_true, Bool.not_false, ne_eq, not_true_eq_false, not_false_eq_true, true_and, and_true, false_and, and_false, true_or, or_true, false_or, or_false, ite_true, ite_false, Bool.false_eq_true])) B_ (fun _ _ _ => trivial)
 ·
  replace hr1 := of_decide_eq_true hr1
  refine K_ 16 [13, 14, 15, 16, 17, 18, 19, 20, 21, 22] (by kernel_rfl) (fun _ a b => ⟨a, b⟩) (p_ rfl rfl rfl (h_ i_ rfl rfl rfl aF_) rfl (p_ rfl rfl rfl (m_ 0 bb_ rfl rfl rfl) rfl (p_ rfl rfl rfl (ah_ ag_ k_ rfl rfl (fun v _ h => aN_ (n := 6) Fc.cells_len (by decide) (by exact h.2.2.1) (show [ga, gb][1]? = some _ from rfl)) (by omega) (by first | omega | (simp; done))) rfl (p_ rfl rfl rfl (aM_ (ad := lad) (us := Fc.cells gb) R_ k_ rfl (fun v _ h => by exact h.2.2.1) (Fc.cells_len _) (ak_ Fc.cells_len (show [ga, gb][1]? = some _ from rfl))) rfl (p_ rfl rfl rfl (h_ i_ rfl rfl rfl k_) rfl (p_ rfl rfl rfl (h_ o_ rfl rfl rfl x_) rfl (p_ rfl rfl rfl (m_ 0 F_ rfl rfl rfl) rfl (p_ rfl rfl rfl (h_ i_ rfl rfl rfl ai_) rfl (p_ rfl rfl rfl (h_ M_ rfl rfl rfl x_) rfl ?_)))))))))
  refine p_ rfl rfl rfl (m_ 0 F_ rfl rfl rfl) rfl (J_ (I_ 23 rfl (by kernel_rfl) (l_ rfl rfl (P_ (by_ (Fc.a f) (Pc.b x)) rfl B_ (fun _ _ _ => by exact trivial) rfl fun _ => ?_))))
  refine d_ (q_ rfl (A_ (fun _ a b => ⟨a, b⟩) (K_ 12 [24, 25, 26] (by kernel_rfl) (fun _ a b => ⟨a, b⟩) ?_)))
  refine ar_ rfl rfl rfl (ap_ (p := gb) (q := (aE_ (Fc.a f) (Pc.b x))) rfl rfl) rfl fun r2 hr2 => ?_
  refine j_ rfl (z_ rfl rfl) rfl (j_ rfl (f_ rfl) rfl (J_ ?_))
  cases r2
  ·
   replace hr2 := of_decide_eq_false hr2
   refine K_ 0 [27, 28, 29, 30, 31, 32, 33, 34, 35, 36, 37, 38] (by kernel_rfl) (fun _ a b => ⟨a, b⟩) (v_ rfl rfl rfl rfl rfl (v_ rfl rfl rfl rfl rfl (v_ rfl rfl rfl rfl rfl (v_ rfl rfl rfl rfl rfl (v_ rfl rfl rfl rfl rfl (v_ rfl rfl rfl rfl rfl (v_ rfl rfl rfl rfl rfl (v_ rfl rfl rfl rfl rfl (v_ rfl rfl rfl rfl rfl ?_)))))))))
   refine v_ rfl rfl rfl rfl rfl (j_ rfl (t_ rfl rfl) rfl (j_ rfl (e_ rfl) rfl (J_ (S_ (by kernel_rfl) (b_ rfl (u_ ?_))))))
   exact Y_ Tryz.results132 () (s_ rfl (by have p1 := eq_true hr1; have p2 := eq_false hr2; simp only [nn_, p1, p2, if_true, if_false, decide_true, decide_false, Bool.and_true, Bool.and_false, Bool.true_and, Bool.false_and, Bool.or_true, Bool.or_false, Bool.true_or, Bool.false_or, Bool.not_true, Bool.not_false, ne_eq, not_true_eq_false, not_false_eq_true, true_and, and_true, false_and, and_false, true_or, or_true, false_or, or_false, ite_true, ite_false, Bool.false_eq_true])) B_ (fun _ _ _ => trivial)
  ·
   replace hr2 := of_decide_eq_true hr2
   refine K_ 4 [27, 28, 29, 30, 31, 32, 33, 34] (by kernel_rfl) (fun _ a b => ⟨a, b⟩) (p_ rfl rfl rfl (h_ i_ rfl rfl rfl k_) rfl (p_ rfl rfl rfl (O_ 0 R_ k_ rfl rfl rfl) rfl (p_ rfl rfl rfl (h_ i_ rfl rfl rfl k_) rfl (p_ rfl rfl rfl (h_ o_ rfl rfl rfl x_) rfl (p_ rfl rfl rfl (m_ 0 F_ rfl rfl rfl) rfl (p_ rfl rfl rfl (h_ i_ rfl rfl rfl ai_) rfl (p_ rfl rfl rfl (h_ M_ rfl rfl rfl x_) rfl (p_ rfl rfl rfl (m_ 0 F_ rfl rfl rfl) rfl (J_ ?_)))))))))
   refine I_ 35 rfl (by kernel_rfl) (l_ rfl rfl (P_ (by_ (Fc.a f) (Pc.c x)) rfl B_ (fun _ _ _ => by exact trivial) rfl fun _ => ?_))
   refine d_ (q_ rfl (A_ (fun _ a b => ⟨a, b⟩) (K_ 0 [36, 37, 38] (by kernel_rfl) (fun _ a b => ⟨a, b⟩) ?_)))
   refine ar_ rfl rfl rfl (ap_ (p := f) (q := (aE_ (Fc.a f) (Pc.c x))) rfl rfl) rfl fun r3 hr3 => ?_
   refine j_ rfl (z_ rfl rfl) rfl (j_ rfl (e_ rfl) rfl (J_ (S_ (by kernel_rfl) (b_ rfl (u_ ?_)))))
   exact Y_ Tryz.results132 () (s_ rfl (by have p1 := eq_true hr1; have p2 := eq_true hr2; rw [← hr3]; simp only [nn_, p1, p2, if_true, if_false, decide_true, decide_false, Bool.and_true, Bool.and_false, Bool.true_and, Bool.false_and, Bool.or_true, Bool.or_false, Bool.true_or, Bool.false_or, Bool.not_true, Bool.not_false, ne_eq, not_true_eq_false, not_false_eq_true, true_and, and_true, false_and, and_false, true_or, or_true, false_or, or_false, ite_true, ite_false, Bool.false_eq_true])) B_ (fun _ _ _ => trivial)
set_option maxHeartbeats 1000000 in
theorem ow_ (kn : Str → Bool) (q : List Str) (hkn : ∀ s, kn s = true ↔ s ∈ q) (es : Array MapEntry) (ec : Nat) (hE : SetE str es q) (vb ab : Nat) (pv fv : Value) (x : Pc) (f ga : Fc) (lad : Option Addr) (lcap : Nat) : Tri Tryz.prog 133 #[.agg #[zp_ vb 0, .int .i64 (Fc.kind f), str (Fc.a f), str (Fc.b f), str (Fc.r f), .int .i64 (Fc.lo f), .int .i64 (Fc.hi f), .slice lad (List.length [ga]) lcap, .int .i64 (Pc.kind x), str (Pc.a x), str (Pc.b x), str (Pc.c x), str (Pc.r x), str (Pc.s x), str (Pc.t x), .int .i64 (Pc.lo x), .int .i64 (Pc.hi x), .int .i64 (Pc.frm x)]] [] [bV_ vb (.cells (cC_ pv ab fv).toArray 83 (0, 0)), bV_ ab (.map es ec), aR_ lad (List.flatMap Fc.cells [ga])] (fun _ : Unit => .bool (oH_ kn x f ga zfc)) (fun _ => []) (fun _ => []) := by
  refine T_ Tryz.func133 rfl rfl Tryz.ntmps133 rfl fun v0 => ?_
  refine g_ (c_ (aL_ rfl rfl fun b1 => ?_))
  refine a_ (e_ rfl) rfl (d_ (b_ rfl (g_ ?_)))
  refine aI_ (by kernel_rfl) ?_
  refine K_ 18 [0, 1, 2, 3, 4, 5, 6, 7, 8, 9] (by kernel_rfl) (fun _ a b => ⟨a, b⟩) (j_ rfl (h_ i_ rfl rfl rfl aF_) rfl (j_ rfl (m_ 0 bb_ rfl rfl rfl) rfl (j_ rfl (ah_ ag_ k_ rfl rfl (fun v _ h => aN_ (n := 6) Fc.cells_len (by decide) (by exact h.2.2.1) (show [ga][0]? = some _ from rfl)) (by omega) (by first | omega | (simp; done))) rfl (j_ rfl (aM_ (ad := lad) (us := Fc.cells ga) R_ k_ rfl (fun v _ h => by exact h.2.2.1) (Fc.cells_len _) (ak_ Fc.cells_len (show [ga][0]? = some _ from rfl))) rfl (j_ rfl (h_ i_ rfl rfl rfl k_) rfl (j_ rfl (h_ o_ rfl rfl rfl x_) rfl (j_ rfl (m_ 0 F_ rfl rfl rfl) rfl (j_ rfl (h_ i_ rfl rfl rfl ai_) rfl (j_ rfl (h_ M_ rfl rfl rfl x_) rfl ?_)))))))))
  refine j_ rfl (m_ 0 F_ rfl rfl rfl) rfl (J_ (I_ 10 rfl (by kernel_rfl) (P_ (by_ (Fc.a f) (Pc.a x)) rfl B_ (fun _ _ _ => by exact trivial) rfl fun _ => ?_)))
  refine d_ (q_ rfl (A_ (fun _ a b => ⟨a, b⟩) (K_ 15 [11, 12] (by kernel_rfl) (fun _ a b => ⟨a, b⟩) ?_)))
  refine bk_ rfl (ap_ (p := ga) (q := (aE_ (Fc.a f) (Pc.a x))) rfl rfl) rfl fun r1 hr1 => ?_
  refine j_ rfl (f_ rfl) rfl (J_ ?_)
  cases r1
  · skip
    replace hr1 := of_decide_eq_false hr1
    refine K_ 0 [13, 14, 15, 16, 17, 18, 19, 20, 21, 22, 23, 24, 25, 26, 27] (by kernel_rfl) (fun _ a b => ⟨a, b⟩) (v_ rfl rfl rfl rfl rfl (v_ rfl rfl rfl rfl rfl (v_ rfl rfl rfl rfl rfl (v_ rfl rfl rfl rfl rfl (v_ rfl rfl rfl rfl rfl (v_ rfl rfl rfl rfl rfl (v_ rfl rfl rfl rfl rfl (v_ rfl rfl rfl rfl rfl (v_ rfl rfl rfl rfl rfl ?_)))))))))
    refine v_ rfl rfl rfl rfl rfl (v_ rfl rfl rfl rfl rfl (v_ rfl rfl rfl rfl rfl (v_ rfl rfl rfl rfl rfl (j_ rfl (t_ rfl rfl) rfl (j_ rfl (e_ rfl) rfl (J_ (S_ (by kernel_rfl) (b_ rfl (u_ ?_)))))))))
    exact Y_ Tryz.results133 () (s_ rfl (by have p1 := eq_false hr1; simp only [oH_, p1, if_true, if_false, decide_true, decide_false, Bool.and_true, Bool.and_false, Bool.true_and, Bool.false_and, Bool.or_true, Bool.or_false, Bool.true_or, Bool.false_or, Bool.not_true, Bool.not_false, ne_eq, not_true_eq_false, not_false_eq_true, true_and, and_true, false_and, and_false, true_or, or_true, false_or, or_false, ite_true, ite_false, Bool.false_eq_true])) B_ (fun _ _ _ => trivial)
  · skip
    replace hr1 := of_decide_eq_true hr1
    refine K_ 4 [13, 14, 15, 16, 17, 18, 19, 20, 21, 22, 23] (by kernel_rfl) (fun _ a b => ⟨a, b⟩) (p_ rfl rfl rfl (h_ i_ rfl rfl rfl k_) rfl (p_ rfl rfl rfl (O_ 0 R_ k_ rfl rfl rfl) rfl (p_ rfl rfl rfl (h_ i_ rfl rfl rfl k_) rfl (p_ rfl rfl rfl (h_ o_ rfl rfl rfl x_) rfl (p_ rfl rfl rfl (m_ 0 F_ rfl rfl rfl) rfl (p_ rfl rfl rfl (h_ i_ rfl rfl rfl ai_) rfl (p_ rfl rfl rfl (h_ M_ rfl rfl rfl x_) rfl (p_ rfl rfl rfl (m_ 0 F_ rfl rfl rfl) rfl (p_ rfl rfl rfl (h_ i_ rfl rfl rfl ai_) rfl ?_)))))))))
    refine p_ rfl rfl rfl (h_ M_ rfl rfl rfl x_) rfl (p_ rfl rfl rfl (m_ 0 F_ rfl rfl rfl) rfl (J_ (I_ 24 rfl (by kernel_rfl) (l_ rfl rfl (P_ (dx_ (Fc.a f) (Pc.r x) (Pc.c x)) rfl B_ (fun _ _ _ => by exact trivial) rfl fun _ => ?_)))))
    refine d_ (q_ rfl (A_ (fun _ a b => ⟨a, b⟩) (K_ 0 [25, 26, 27] (by kernel_rfl) (fun _ a b => ⟨a, b⟩) ?_)))
    refine ar_ rfl rfl rfl (ap_ (p := f) (q := (bq_ (Fc.a f) (Pc.r x) (Pc.c x))) rfl rfl) rfl fun r2 hr2 => ?_
    refine j_ rfl (z_ rfl rfl) rfl (j_ rfl (e_ rfl) rfl (J_ (S_ (by kernel_rfl) (b_ rfl (u_ ?_)))))
    exact Y_ Tryz.results133 () (s_ rfl (by have p1 := eq_true hr1; rw [← hr2]; simp only [oH_, p1, if_true, if_false, decide_true, decide_false, Bool.and_true, Bool.and_false, Bool.true_and, Bool.false_and, Bool.or_true, Bool.or_false, Bool.true_or, Bool.false_or, Bool.not_true, Bool.not_false, ne_eq, not_true_eq_false, not_false_eq_true, true_and, and_true, false_and, and_false, true_or, or_true, false_or, or_false, ite_true, ite_false, Bool.false_eq_true])) B_ (fun _ _ _ => trivial)
set_option maxHeartbeats 1000000 in
theorem ov_ (kn : Str → Bool) (q : List Str) (hkn : ∀ s, kn s = true ↔ s ∈ q) (es : Array MapEntry) (ec : Nat) (hE : SetE str es q) (vb ab : Nat) (pv fv : Value) (x : Pc) (f ga : Fc) (lad : Option Addr) (lcap : Nat) : Tri Tryz.prog 135 #[.agg #[zp_ vb 0, .int .i64 (Fc.kind f), str (Fc.a f), str (Fc.b f), str (Fc.r f), .int .i64 (Fc.lo f), .int .i64 (Fc.hi f), .slice lad (List.length [ga]) lcap, .int .i64 (Pc.kind x), str (Pc.a x), str (Pc.b x), str (Pc.c x), str (Pc.r x), str (Pc.s x), str (Pc.t x), .int .i64 (Pc.lo x), .int .i64 (Pc.hi x), .int .i64 (Pc.frm x)]] [] [bV_ vb (.cells (cC_ pv ab fv).toArray 83 (0, 0)), bV_ ab (.map es ec), aR_ lad (List.flatMap Fc.cells [ga])] (fun _ : Unit => .bool (oG_ kn x f ga zfc)) (fun _ => []) (fun _ => []) := by
  refine T_ Tryz.func135 rfl rfl Tryz.ntmps135 rfl fun v0 => ?_
  refine g_ (c_ (aL_ rfl rfl fun b1 => ?_))
  refine a_ (e_ rfl) rfl (d_ (b_ rfl (g_ ?_)))
  refine aI_ (by kernel_rfl) ?_
  refine K_ 18 [0, 1, 2, 3, 4, 5, 6, 7, 8, 9, 10, 11, 12] (by kernel_rfl) (fun _ a b => ⟨a, b⟩) (j_ rfl (h_ i_ rfl rfl rfl aF_) rfl (j_ rfl (m_ 0 bb_ rfl rfl rfl) rfl (j_ rfl (ah_ ag_ k_ rfl rfl (fun v _ h => aN_ (n := 6) Fc.cells_len (by decide) (by exact h.2.2.1) (show [ga][0]? = some _ from rfl)) (by omega) (by first | omega | (simp; done))) rfl (j_ rfl (aM_ (ad := lad) (us := Fc.cells ga) R_ k_ rfl (fun v _ h => by exact h.2.2.1) (Fc.cells_len _) (ak_ Fc.cells_len (show [ga][0]? = some _ from rfl))) rfl (j_ rfl (h_ i_ rfl rfl rfl k_) rfl (j_ rfl (h_ o_ rfl rfl rfl x_) rfl (j_ rfl (m_ 0 F_ rfl rfl rfl) rfl (j_ rfl (h_ i_ rfl rfl rfl ai_) rfl (j_ rfl (h_ M_ rfl rfl rfl x_) rfl ?_)))))))))
  refine j_ rfl (m_ 0 F_ rfl rfl rfl) rfl (j_ rfl (h_ i_ rfl rfl rfl k_) rfl (j_ rfl (h_ o_ rfl rfl rfl x_) rfl (j_ rfl (m_ 0 F_ rfl rfl rfl) rfl (J_ (I_ 13 rfl (by kernel_rfl) (P_ (dx_ (Fc.a f) (Pc.r x) (Fc.b f)) rfl B_ (fun _ _ _ => by exact trivial) rfl fun _ => ?_))))))
  refine d_ (q_ rfl (A_ (fun _ a b => ⟨a, b⟩) (K_ 15 [14, 15] (by kernel_rfl) (fun _ a b => ⟨a, b⟩) ?_)))
  refine bk_ rfl (ap_ (p := ga) (q := (bq_ (Fc.a f) (Pc.r x) (Fc.b f))) rfl rfl) rfl fun r1 hr1 => ?_
  refine j_ rfl (f_ rfl) rfl (J_ ?_)
  cases r1
  · skip
    replace hr1 := of_decide_eq_false hr1
    refine K_ 0 [16, 17, 18, 19, 20, 21, 22, 23, 24, 25, 26, 27, 28, 29, 30] (by kernel_rfl) (fun _ a b => ⟨a, b⟩) (v_ rfl rfl rfl rfl rfl (v_ rfl rfl rfl rfl rfl (v_ rfl rfl rfl rfl rfl (v_ rfl rfl rfl rfl rfl (v_ rfl rfl rfl rfl rfl (v_ rfl rfl rfl rfl rfl (v_ rfl rfl rfl rfl rfl (v_ rfl rfl rfl rfl rfl (v_ rfl rfl rfl rfl rfl ?_)))))))))
    refine v_ rfl rfl rfl rfl rfl (v_ rfl rfl rfl rfl rfl (v_ rfl rfl rfl rfl rfl (v_ rfl rfl rfl rfl rfl (j_ rfl (t_ rfl rfl) rfl (j_ rfl (e_ rfl) rfl (J_ (S_ (by kernel_rfl) (b_ rfl (u_ ?_)))))))))
    exact Y_ Tryz.results135 () (s_ rfl (by have p1 := eq_false hr1; simp only [oG_, p1, if_true, if_false, decide_true, decide_false, Bool.and_true, Bool.and_false, Bool.true_and, Bool.false_and, Bool.or_true, Bool.or_false, Bool.true_or, Bool.false_or, Bool.not_true, Bool.not_false, ne_eq, not_true_eq_false, not_false_eq_true, true_and, and_true, false_and, and_false, true_or, or_true, false_or, or_false, ite_true, ite_false, Bool.false_eq_true])) B_ (fun _ _ _ => trivial)
  · skip
    replace hr1 := of_decide_eq_true hr1
    refine K_ 4 [16, 17, 18, 19, 20, 21, 22, 23, 24, 25, 26] (by kernel_rfl) (fun _ a b => ⟨a, b⟩) (p_ rfl rfl rfl (h_ i_ rfl rfl rfl k_) rfl (p_ rfl rfl rfl (O_ 0 R_ k_ rfl rfl rfl) rfl (p_ rfl rfl rfl (h_ i_ rfl rfl rfl k_) rfl (p_ rfl rfl rfl (h_ o_ rfl rfl rfl x_) rfl (p_ rfl rfl rfl (m_ 0 F_ rfl rfl rfl) rfl (p_ rfl rfl rfl (h_ i_ rfl rfl rfl ai_) rfl (p_ rfl rfl rfl (h_ M_ rfl rfl rfl x_) rfl (p_ rfl rfl rfl (m_ 0 F_ rfl rfl rfl) rfl (p_ rfl rfl rfl (h_ i_ rfl rfl rfl k_) rfl ?_)))))))))
    refine p_ rfl rfl rfl (h_ o_ rfl rfl rfl x_) rfl (p_ rfl rfl rfl (m_ 0 F_ rfl rfl rfl) rfl (J_ (I_ 27 rfl (by kernel_rfl) (l_ rfl rfl (P_ (dx_ (Fc.a f) (Pc.t x) (Fc.b f)) rfl B_ (fun _ _ _ => by exact trivial) rfl fun _ => ?_)))))
    refine d_ (q_ rfl (A_ (fun _ a b => ⟨a, b⟩) (K_ 0 [28, 29, 30] (by kernel_rfl) (fun _ a b => ⟨a, b⟩) ?_)))
    refine ar_ rfl rfl rfl (ap_ (p := f) (q := (bq_ (Fc.a f) (Pc.t x) (Fc.b f))) rfl rfl) rfl fun r2 hr2 => ?_
    refine j_ rfl (z_ rfl rfl) rfl (j_ rfl (e_ rfl) rfl (J_ (S_ (by kernel_rfl) (b_ rfl (u_ ?_)))))
    exact Y_ Tryz.results135 () (s_ rfl (by have p1 := eq_true hr1; rw [← hr2]; simp only [oG_, p1, if_true, if_false, decide_true, decide_false, Bool.and_true, Bool.and_false, Bool.true_and, Bool.false_and, Bool.or_true, Bool.or_false, Bool.true_or, Bool.false_or, Bool.not_true, Bool.not_false, ne_eq, not_true_eq_false, not_false_eq_true, true_and, and_true, false_and, and_false, true_or, or_true, false_or, or_false, ite_true, ite_false, Bool.false_eq_true])) B_ (fun _ _ _ => trivial)
set_option maxHeartbeats 1000000 in
theorem ou_ (kn : Str → Bool) (q : List Str) (hkn : ∀ s, kn s = true ↔ s ∈ q) (es : Array MapEntry) (ec : Nat) (hE : SetE str es q) (vb ab : Nat) (pv fv : Value) (x : Pc) (f ga gb : Fc) (lad : Option Addr) (lcap : Nat) : Tri Tryz.prog 136 #[.agg #[zp_ vb 0, .int .i64 (Fc.kind f), str (Fc.a f), str (Fc.b f), str (Fc.r f), .int .i64 (Fc.lo f), .int .i64 (Fc.hi f), .slice lad (List.length [ga, gb]) lcap, .int .i64 (Pc.kind x), str (Pc.a x), str (Pc.b x), str (Pc.c x), str (Pc.r x), str (Pc.s x), str (Pc.t x), .int .i64 (Pc.lo x), .int .i64 (Pc.hi x), .int .i64 (Pc.frm x)]] [] [bV_ vb (.cells (cC_ pv ab fv).toArray 83 (0, 0)), bV_ ab (.map es ec), aR_ lad (List.flatMap Fc.cells [ga, gb])] (fun _ : Unit => .bool (nm_ kn x f ga gb)) (fun _ => []) (fun _ => []) := by
 refine T_ Tryz.func136 rfl rfl Tryz.ntmps136 rfl fun v0 => ?_
 refine g_ (c_ (aL_ rfl rfl fun b1 => ?_))
 refine a_ (e_ rfl) rfl (d_ (b_ rfl (g_ (c_ (a_ (h_ i_ rfl rfl rfl aF_) rfl (a_ (m_ 0 bb_ rfl rfl rfl) rfl (a_ (ah_ ag_ k_ rfl rfl (fun v _ h => aN_ (n := 6) Fc.cells_len (by decide) (by exact h.2.2.1) (show [ga, gb][0]? = some _ from rfl)) (by omega) (by first | omega | (simp; done))) rfl (a_ (bL_ o_ rfl rfl rfl x_) rfl (a_ (bj_ (ad := lad) F_ rfl (fun v _ h => by exact h.2.2.1) (ak_ Fc.cells_len (show [ga, gb][0]? = some _ from rfl) 2 _ rfl)) rfl ?_)))))))))
 refine a_ (e_ rfl) rfl (d_ (b_ rfl (g_ ?_)))
 refine aI_ (by kernel_rfl) ?_
 refine K_ 33 [0, 1, 2, 3, 4, 5, 6, 7, 8, 9, 10] (by kernel_rfl) (fun _ a b => ⟨a, b⟩) (j_ rfl (h_ i_ rfl rfl rfl aF_) rfl (j_ rfl (m_ 0 bb_ rfl rfl rfl) rfl (j_ rfl (ah_ ag_ k_ rfl rfl (fun v _ h => aN_ (n := 6) Fc.cells_len (by decide) (by exact h.2.2.1) (show [ga, gb][0]? = some _ from rfl)) (by omega) (by first | omega | (simp; done))) rfl (j_ rfl (aM_ (ad := lad) (us := Fc.cells ga) R_ k_ rfl (fun v _ h => by exact h.2.2.1) (Fc.cells_len _) (ak_ Fc.cells_len (show [ga, gb][0]? = some _ from rfl))) rfl (j_ rfl (h_ i_ rfl rfl rfl k_) rfl (j_ rfl (h_ o_ rfl rfl rfl x_) rfl (j_ rfl (m_ 0 F_ rfl rfl rfl) rfl (j_ rfl (h_ i_ rfl rfl rfl ai_) rfl (j_ rfl (h_ M_ rfl rfl rfl x_) rfl ?_)))))))))
 refine j_ rfl (m_ 0 F_ rfl rfl rfl) rfl (j_ rfl (f_ rfl) rfl (J_ (I_ 11 rfl (by kernel_rfl) (P_ (dx_ (Fc.a f) (Pc.r x) (Fc.b ga)) rfl B_ (fun _ _ _ => by exact trivial) rfl fun _ => ?_))))
 refine d_ (q_ rfl (A_ (fun _ a b => ⟨a, b⟩) (K_ 30 [12, 13] (by kernel_rfl) (fun _ a b => ⟨a, b⟩) ?_)))
 refine bk_ rfl (ap_ (p := ga) (q := (bq_ (Fc.a f) (Pc.r x) (Fc.b ga))) rfl rfl) rfl fun r1 hr1 => ?_
 refine j_ rfl (f_ rfl) rfl (J_ ?_)
 cases r1
 ·
  replace hr1 := of_decide_eq_false hr1
  refine K_ 0 [14, 15, 16, 17, 18, 19, 20, 21, 22, 23, 24, 25, 26, 27, 28, 29, 30, 31, 32, 33, 34, 35, 36, 37, 38, 39, 40, 41, 42, 43] (by kernel_rfl) (fun _ a b => ⟨a, b⟩) (v_ rfl rfl rfl rfl rfl (v_ rfl rfl rfl rfl rfl (v_ rfl rfl rfl rfl rfl (v_ rfl rfl rfl rfl rfl (v_ rfl rfl rfl rfl rfl (v_ rfl rfl rfl rfl rfl (v_ rfl rfl rfl rfl rfl (v_ rfl rfl rfl rfl rfl (v_ rfl rfl rfl rfl rfl ?_)))))))))
  refine v_ rfl rfl rfl rfl rfl (v_ rfl rfl rfl rfl rfl (v_ rfl rfl rfl rfl rfl (v_ rfl rfl rfl rfl rfl (j_ rfl (t_ rfl rfl) rfl (j_ rfl (f_ rfl) rfl (v_ rfl rfl rfl rfl rfl (v_ rfl rfl rfl rfl rfl (v_ rfl rfl rfl rfl rfl (v_ rfl rfl rfl rfl rfl ?_)))))))))
  refine v_ rfl rfl rfl rfl rfl (v_ rfl rfl rfl rfl rfl (v_ rfl rfl rfl rfl rfl (v_ rfl rfl rfl rfl rfl (v_ rfl rfl rfl rfl rfl (v_ rfl rfl rfl rfl rfl (v_ rfl rfl rfl rfl rfl (v_ rfl rfl rfl rfl rfl (v_ rfl rfl rfl rfl rfl (j_ rfl (t_ rfl rfl) rfl ?_)))))))))
  refine j_ rfl (e_ rfl) rfl (J_ (S_ (by kernel_rfl) (b_ rfl (u_ ?_))))
  exact Y_ Tryz.results136 () (s_ rfl (by have p1 := eq_false hr1; simp only [nm_, p1, if_true, if_false, decide_true, decide_false, Bool.and_true, Bool.and_false, Bool.true_and, Bool.false_and, Bool.or_true, Bool.or_false, Bool.true_or, Bool.false_or, Bool.not_true, Bool.not_false, ne_eq, not_true_eq_false, not_false_eq_true, true_and, and_true, false_and, and_false, true_or, or_true, false_or, or_false, ite_true, ite_false, Bool.false_eq_true])) B_ (fun _ _ _ => trivial)
 ·
  replace hr1 := of_decide_eq_true hr1
  refine K_ 19 [14, 15, 16, 17, 18, 19, 20, 21, 22, 23, 24] (by kernel_rfl) (fun _ a b => ⟨a, b⟩) (p_ rfl rfl rfl (h_ i_ rfl rfl rfl aF_) rfl (p_ rfl rfl rfl (m_ 0 bb_ rfl rfl rfl) rfl (p_ rfl rfl rfl (ah_ ag_ k_ rfl rfl (fun v _ h => aN_ (n := 6) Fc.cells_len (by decide) (by exact h.2.2.1) (show [ga, gb][1]? = some _ from rfl)) (by omega) (by first | omega | (simp; done))) rfl (p_ rfl rfl rfl (aM_ (ad := lad) (us := Fc.cells gb) R_ k_ rfl (fun v _ h => by exact h.2.2.1) (Fc.cells_len _) (ak_ Fc.cells_len (show [ga, gb][1]? = some _ from rfl))) rfl (p_ rfl rfl rfl (f_ rfl) rfl (p_ rfl rfl rfl (h_ i_ rfl rfl rfl ai_) rfl (p_ rfl rfl rfl (h_ M_ rfl rfl rfl x_) rfl (p_ rfl rfl rfl (m_ 0 F_ rfl rfl rfl) rfl (p_ rfl rfl rfl (h_ i_ rfl rfl rfl k_) rfl ?_)))))))))
  refine p_ rfl rfl rfl (h_ o_ rfl rfl rfl x_) rfl (p_ rfl rfl rfl (m_ 0 F_ rfl rfl rfl) rfl (J_ (I_ 25 rfl (by kernel_rfl) (l_ rfl rfl (P_ (dx_ (Fc.b ga) (Pc.s x) (Fc.b f)) rfl B_ (fun _ _ _ => by exact trivial) rfl fun _ => ?_)))))
  refine d_ (q_ rfl (A_ (fun _ a b => ⟨a, b⟩) (K_ 15 [26, 27, 28] (by kernel_rfl) (fun _ a b => ⟨a, b⟩) ?_)))
  refine ar_ rfl rfl rfl (ap_ (p := gb) (q := (bq_ (Fc.b ga) (Pc.s x) (Fc.b f))) rfl rfl) rfl fun r2 hr2 => ?_
  refine j_ rfl (z_ rfl rfl) rfl (j_ rfl (f_ rfl) rfl (J_ ?_))
  cases r2
  ·
   replace hr2 := of_decide_eq_false hr2
   refine K_ 0 [29, 30, 31, 32, 33, 34, 35, 36, 37, 38, 39, 40, 41, 42, 43] (by kernel_rfl) (fun _ a b => ⟨a, b⟩) (v_ rfl rfl rfl rfl rfl (v_ rfl rfl rfl rfl rfl (v_ rfl rfl rfl rfl rfl (v_ rfl rfl rfl rfl rfl (v_ rfl rfl rfl rfl rfl (v_ rfl rfl rfl rfl rfl (v_ rfl rfl rfl rfl rfl (v_ rfl rfl rfl rfl rfl (v_ rfl rfl rfl rfl rfl ?_)))))))))
   refine v_ rfl rfl rfl rfl rfl (v_ rfl rfl rfl rfl rfl (v_ rfl rfl rfl rfl rfl (v_ rfl rfl rfl rfl rfl (j_ rfl (t_ rfl rfl) rfl (j_ rfl (e_ rfl) rfl (J_ (S_ (by kernel_rfl) (b_ rfl (u_ ?_)))))))))
   exact Y_ Tryz.results136 () (s_ rfl (by have p1 := eq_true hr1; have p2 := eq_false hr2; simp only [nm_, p1, p2, if_true, if_false, decide_true, decide_false, Bool.and_true, Bool.and_false, Bool.true_and, Bool.false_and, Bool.or_true, Bool.or_false, Bool.true_or, Bool.false_or, Bool.not_true, Bool.not_false, ne_eq, not_true_eq_false, not_false_eq_true, true_and, and_true, false_and, and_false, true_or, or_true, false_or, or_false, ite_true, ite_false, Bool.false_eq_true])) B_ (fun _ _ _ => trivial)
  ·
   replace hr2 := of_decide_eq_true hr2
   refine K_ 4 [29, 30, 31, 32, 33, 34, 35, 36, 37, 38, 39] (by kernel_rfl) (fun _ a b => ⟨a, b⟩) (p_ rfl rfl rfl (h_ i_ rfl rfl rfl k_) rfl (p_ rfl rfl rfl (O_ 0 R_ k_ rfl rfl rfl) rfl (p_ rfl rfl rfl (h_ i_ rfl rfl rfl k_) rfl (p_ rfl rfl rfl (h_ o_ rfl rfl rfl x_) rfl (p_ rfl rfl rfl (m_ 0 F_ rfl rfl rfl) rfl (p_ rfl rfl rfl (h_ i_ rfl rfl rfl ai_) rfl (p_ rfl rfl rfl (h_ M_ rfl rfl rfl x_) rfl (p_ rfl rfl rfl (m_ 0 F_ rfl rfl rfl) rfl (p_ rfl rfl rfl (h_ i_ rfl rfl rfl k_) rfl ?_)))))))))
   refine p_ rfl rfl rfl (h_ o_ rfl rfl rfl x_) rfl (p_ rfl rfl rfl (m_ 0 F_ rfl rfl rfl) rfl (J_ (I_ 40 rfl (by kernel_rfl) (l_ rfl rfl (P_ (dx_ (Fc.a f) (Pc.t x) (Fc.b f)) rfl B_ (fun _ _ _ => by exact trivial) rfl fun _ => ?_)))))
   refine d_ (q_ rfl (A_ (fun _ a b => ⟨a, b⟩) (K_ 0 [41, 42, 43] (by kernel_rfl) (fun _ a b => ⟨a, b⟩) ?_)))
   refine ar_ rfl rfl rfl (ap_ (p := f) (q := (bq_ (Fc.a f) (Pc.t x) (Fc.b f))) rfl rfl) rfl fun r3 hr3 => ?_
   refine j_ rfl (z_ rfl rfl) rfl (j_ rfl (e_ rfl) rfl (J_ (S_ (by kernel_rfl) (b_ rfl (u_ ?_)))))
   exact Y_ Tryz.results136 () (s_ rfl (by have p1 := eq_true hr1; have p2 := eq_true hr2; rw [← hr3]; simp only [nm_, p1, p2, if_true, if_false, decide_true, decide_false, Bool.and_true, Bool.and_false, Bool.true_and, Bool.false_and, Bool.or_true, Bool.or_false, Bool.true_or, Bool.false_or, Bool.not_true, Bool.not_false, ne_eq, not_true_eq_false, not_false_eq_true, true_and, and_true, false_and, and_false, true_or, or_true, false_or, or_false, ite_true, ite_false, Bool.false_eq_true])) B_ (fun _ _ _ => trivial)
set_option maxHeartbeats 1000000 in
theorem ot_ (kn : Str → Bool) (q : List Str) (hkn : ∀ s, kn s = true ↔ s ∈ q) (es : Array MapEntry) (ec : Nat) (hE : SetE str es q) (vb ab : Nat) (pv fv : Value) (x : Pc) (f ga gb : Fc) (lad : Option Addr) (lcap : Nat) : Tri Tryz.prog 137 #[.agg #[zp_ vb 0, .int .i64 (Fc.kind f), str (Fc.a f), str (Fc.b f), str (Fc.r f), .int .i64 (Fc.lo f), .int .i64 (Fc.hi f), .slice lad (List.length [ga, gb]) lcap, .int .i64 (Pc.kind x), str (Pc.a x), str (Pc.b x), str (Pc.c x), str (Pc.r x), str (Pc.s x), str (Pc.t x), .int .i64 (Pc.lo x), .int .i64 (Pc.hi x), .int .i64 (Pc.frm x)]] [] [bV_ vb (.cells (cC_ pv ab fv).toArray 83 (0, 0)), bV_ ab (.map es ec), aR_ lad (List.flatMap Fc.cells [ga, gb])] (fun _ : Unit => .bool (nl_ kn x f ga gb)) (fun _ => []) (fun _ => []) := by
 refine T_ Tryz.func137 rfl rfl Tryz.ntmps137 rfl fun v0 => ?_
 refine g_ (c_ (aL_ rfl rfl fun b1 => ?_))
 refine a_ (e_ rfl) rfl (d_ (b_ rfl (g_ (c_ (a_ (h_ i_ rfl rfl rfl aF_) rfl (a_ (m_ 0 bb_ rfl rfl rfl) rfl (a_ (ah_ ag_ k_ rfl rfl (fun v _ h => aN_ (n := 6) Fc.cells_len (by decide) (by exact h.2.2.1) (show [ga, gb][0]? = some _ from rfl)) (by omega) (by first | omega | (simp; done))) rfl (a_ (bL_ o_ rfl rfl rfl x_) rfl (a_ (bj_ (ad := lad) F_ rfl (fun v _ h => by exact h.2.2.1) (ak_ Fc.cells_len (show [ga, gb][0]? = some _ from rfl) 2 _ rfl)) rfl ?_)))))))))
 refine a_ (e_ rfl) rfl (d_ (b_ rfl (g_ ?_)))
 refine aI_ (by kernel_rfl) ?_
 refine K_ 27 [0, 1, 2, 3, 4, 5, 6, 7, 8, 9, 10] (by kernel_rfl) (fun _ a b => ⟨a, b⟩) (j_ rfl (h_ i_ rfl rfl rfl aF_) rfl (j_ rfl (m_ 0 bb_ rfl rfl rfl) rfl (j_ rfl (ah_ ag_ k_ rfl rfl (fun v _ h => aN_ (n := 6) Fc.cells_len (by decide) (by exact h.2.2.1) (show [ga, gb][0]? = some _ from rfl)) (by omega) (by first | omega | (simp; done))) rfl (j_ rfl (aM_ (ad := lad) (us := Fc.cells ga) R_ k_ rfl (fun v _ h => by exact h.2.2.1) (Fc.cells_len _) (ak_ Fc.cells_len (show [ga, gb][0]? = some _ from rfl))) rfl (j_ rfl (h_ i_ rfl rfl rfl k_) rfl (j_ rfl (h_ o_ rfl rfl rfl x_) rfl (j_ rfl (m_ 0 F_ rfl rfl rfl) rfl (j_ rfl (h_ i_ rfl rfl rfl ai_) rfl (j_ rfl (h_ M_ rfl rfl rfl x_) rfl ?_)))))))))
 refine j_ rfl (m_ 0 F_ rfl rfl rfl) rfl (j_ rfl (f_ rfl) rfl (J_ (I_ 11 rfl (by kernel_rfl) (P_ (dx_ (Fc.a f) (Pc.r x) (Fc.b ga)) rfl B_ (fun _ _ _ => by exact trivial) rfl fun _ => ?_))))
 refine d_ (q_ rfl (A_ (fun _ a b => ⟨a, b⟩) (K_ 24 [12, 13] (by kernel_rfl) (fun _ a b => ⟨a, b⟩) ?_)))
 refine bk_ rfl (ap_ (p := ga) (q := (bq_ (Fc.a f) (Pc.r x) (Fc.b ga))) rfl rfl) rfl fun r1 hr1 => ?_
 refine j_ rfl (f_ rfl) rfl (J_ ?_)
 cases r1
 ·
  replace hr1 := of_decide_eq_false hr1
  refine K_ 0 [14, 15, 16, 17, 18, 19, 20, 21, 22, 23, 24, 25, 26, 27, 28, 29, 30, 31, 32, 33, 34, 35, 36, 37] (by kernel_rfl) (fun _ a b => ⟨a, b⟩) (v_ rfl rfl rfl rfl rfl (v_ rfl rfl rfl rfl rfl (v_ rfl rfl rfl rfl rfl (v_ rfl rfl rfl rfl rfl (v_ rfl rfl rfl rfl rfl (v_ rfl rfl rfl rfl rfl (v_ rfl rfl rfl rfl rfl (v_ rfl rfl rfl rfl rfl (v_ rfl rfl rfl rfl rfl ?_)))))))))
  refine v_ rfl rfl rfl rfl rfl (j_ rfl (t_ rfl rfl) rfl (j_ rfl (f_ rfl) rfl (v_ rfl rfl rfl rfl rfl (v_ rfl rfl rfl rfl rfl (v_ rfl rfl rfl rfl rfl (v_ rfl rfl rfl rfl rfl (v_ rfl rfl rfl rfl rfl (v_ rfl rfl rfl rfl rfl (v_ rfl rfl rfl rfl rfl ?_)))))))))
  refine v_ rfl rfl rfl rfl rfl (v_ rfl rfl rfl rfl rfl (v_ rfl rfl rfl rfl rfl (j_ rfl (t_ rfl rfl) rfl (j_ rfl (e_ rfl) rfl (J_ (S_ (by kernel_rfl) (b_ rfl (u_ ?_))))))))
  exact Y_ Tryz.results137 () (s_ rfl (by have p1 := eq_false hr1; simp only [nl_, p1, if_true, if_false, decide_true, decide_false, Bool.and_true, Bool.and_false, Bool.true_and, Bool.false_and, Bool.or_true, Bool.or_false, Bool.true_or, Bool.false_or, Bool.not_true, Bool.not_false, ne_eq, not_true_eq_false, not_false_eq_true, true_and, and_true, false_and, and_false, true_or, or_true, false_or, or_false, ite_true, ite_false, Bool.false_eq_true])) B_ (fun _ _ _ => trivial)
 ·
  replace hr1 := of_decide_eq_true hr1
  refine K_ 16 [14, 15, 16, 17, 18, 19, 20, 21] (by kernel_rfl) (fun _ a b => ⟨a, b⟩) (p_ rfl rfl rfl (h_ i_ rfl rfl rfl aF_) rfl (p_ rfl rfl rfl (m_ 0 bb_ rfl rfl rfl) rfl (p_ rfl rfl rfl (ah_ ag_ k_ rfl rfl (fun v _ h => aN_ (n := 6) Fc.cells_len (by decide) (by exact h.2.2.1) (show [ga, gb][1]? = some _ from rfl)) (by omega) (by first | omega | (simp; done))) rfl (p_ rfl rfl rfl (aM_ (ad := lad) (us := Fc.cells gb) R_ k_ rfl (fun v _ h => by exact h.2.2.1) (Fc.cells_len _) (ak_ Fc.cells_len (show [ga, gb][1]? = some _ from rfl))) rfl (p_ rfl rfl rfl (f_ rfl) rfl (p_ rfl rfl rfl (h_ i_ rfl rfl rfl ai_) rfl (p_ rfl rfl rfl (h_ M_ rfl rfl rfl x_) rfl (p_ rfl rfl rfl (m_ 0 F_ rfl rfl rfl) rfl (J_ ?_)))))))))
  refine I_ 22 rfl (by kernel_rfl) (l_ rfl rfl (P_ (by_ (Fc.b ga) (Pc.a x)) rfl B_ (fun _ _ _ => by exact trivial) rfl fun _ => ?_))
  refine d_ (q_ rfl (A_ (fun _ a b => ⟨a, b⟩) (K_ 12 [23, 24, 25] (by kernel_rfl) (fun _ a b => ⟨a, b⟩) ?_)))
  refine ar_ rfl rfl rfl (ap_ (p := gb) (q := (aE_ (Fc.b ga) (Pc.a x))) rfl rfl) rfl fun r2 hr2 => ?_
  refine j_ rfl (z_ rfl rfl) rfl (j_ rfl (f_ rfl) rfl (J_ ?_))
  cases r2
  ·
   replace hr2 := of_decide_eq_false hr2
   refine K_ 0 [26, 27, 28, 29, 30, 31, 32, 33, 34, 35, 36, 37] (by kernel_rfl) (fun _ a b => ⟨a, b⟩) (v_ rfl rfl rfl rfl rfl (v_ rfl rfl rfl rfl rfl (v_ rfl rfl rfl rfl rfl (v_ rfl rfl rfl rfl rfl (v_ rfl rfl rfl rfl rfl (v_ rfl rfl rfl rfl rfl (v_ rfl rfl rfl rfl rfl (v_ rfl rfl rfl rfl rfl (v_ rfl rfl rfl rfl rfl ?_)))))))))
   refine v_ rfl rfl rfl rfl rfl (j_ rfl (t_ rfl rfl) rfl (j_ rfl (e_ rfl) rfl (J_ (S_ (by kernel_rfl) (b_ rfl (u_ ?_))))))
   exact Y_ Tryz.results137 () (s_ rfl (by have p1 := eq_true hr1; have p2 := eq_false hr2; simp only [nl_, p1, p2, if_true, if_false, decide_true, decide_false, Bool.and_true, Bool.and_false, Bool.true_and, Bool.false_and, Bool.or_true, Bool.or_false, Bool.true_or, Bool.false_or, Bool.not_true, Bool.not_false, ne_eq, not_true_eq_false, not_false_eq_true, true_and, and_true, false_and, and_false, true_or, or_true, false_or, or_false, ite_true, ite_false, Bool.false_eq_true])) B_ (fun _ _ _ => trivial)
  ·
   replace hr2 := of_decide_eq_true hr2
   refine K_ 4 [26, 27, 28, 29, 30, 31, 32, 33] (by kernel_rfl) (fun _ a b => ⟨a, b⟩) (p_ rfl rfl rfl (h_ i_ rfl rfl rfl k_) rfl (p_ rfl rfl rfl (O_ 0 R_ k_ rfl rfl rfl) rfl (p_ rfl rfl rfl (h_ i_ rfl rfl rfl k_) rfl (p_ rfl rfl rfl (h_ o_ rfl rfl rfl x_) rfl (p_ rfl rfl rfl (m_ 0 F_ rfl rfl rfl) rfl (p_ rfl rfl rfl (h_ i_ rfl rfl rfl ai_) rfl (p_ rfl rfl rfl (h_ M_ rfl rfl rfl x_) rfl (p_ rfl rfl rfl (m_ 0 F_ rfl rfl rfl) rfl (J_ ?_)))))))))
   refine I_ 34 rfl (by kernel_rfl) (l_ rfl rfl (P_ (by_ (Fc.a f) (Pc.c x)) rfl B_ (fun _ _ _ => by exact trivial) rfl fun _ => ?_))
   refine d_ (q_ rfl (A_ (fun _ a b => ⟨a, b⟩) (K_ 0 [35, 36, 37] (by kernel_rfl) (fun _ a b => ⟨a, b⟩) ?_)))
   refine ar_ rfl rfl rfl (ap_ (p := f) (q := (aE_ (Fc.a f) (Pc.c x))) rfl rfl) rfl fun r3 hr3 => ?_
   refine j_ rfl (z_ rfl rfl) rfl (j_ rfl (e_ rfl) rfl (J_ (S_ (by kernel_rfl) (b_ rfl (u_ ?_)))))
   exact Y_ Tryz.results137 () (s_ rfl (by have p1 := eq_true hr1; have p2 := eq_true hr2; rw [← hr3]; simp only [nl_, p1, p2, if_true, if_false, decide_true, decide_false, Bool.and_true, Bool.and_false, Bool.true_and, Bool.false_and, Bool.or_true, Bool.or_false, Bool.true_or, Bool.false_or, Bool.not_true, Bool.not_false, ne_eq, not_true_eq_false, not_false_eq_true, true_and, and_true, false_and, and_false, true_or, or_true, false_or, or_false, ite_true, ite_false, Bool.false_eq_true])) B_ (fun _ _ _ => trivial)
set_option maxHeartbeats 1000000 in
theorem os_ (kn : Str → Bool) (q : List Str) (hkn : ∀ s, kn s = true ↔ s ∈ q) (es : Array MapEntry) (ec : Nat) (hE : SetE str es q) (vb ab : Nat) (pv fv : Value) (x : Pc) (f ga gb : Fc) (lad : Option Addr) (lcap : Nat) : Tri Tryz.prog 138 #[.agg #[zp_ vb 0, .int .i64 (Fc.kind f), str (Fc.a f), str (Fc.b f), str (Fc.r f), .int .i64 (Fc.lo f), .int .i64 (Fc.hi f), .slice lad (List.length [ga, gb]) lcap, .int .i64 (Pc.kind x), str (Pc.a x), str (Pc.b x), str (Pc.c x), str (Pc.r x), str (Pc.s x), str (Pc.t x), .int .i64 (Pc.lo x), .int .i64 (Pc.hi x), .int .i64 (Pc.frm x)]] [] [bV_ vb (.cells (cC_ pv ab fv).toArray 83 (0, 0)), bV_ ab (.map es ec), aR_ lad (List.flatMap Fc.cells [ga, gb])] (fun _ : Unit => .bool (nk_ kn x f ga gb)) (fun _ => []) (fun _ => []) := by
  refine T_ Tryz.func138 rfl rfl Tryz.ntmps138 rfl fun v0 => ?_
  refine g_ (c_ (aL_ rfl rfl fun b1 => ?_))
  refine a_ (e_ rfl) rfl (d_ (b_ rfl (g_ (c_ (a_ (h_ i_ rfl rfl rfl aF_) rfl (a_ (m_ 0 bb_ rfl rfl rfl) rfl (a_ (ah_ ag_ k_ rfl rfl (fun v _ h => aN_ (n := 6) Fc.cells_len (by decide) (by exact h.2.2.1) (show [ga, gb][0]? = some _ from rfl)) (by omega) (by first | omega | (simp; done))) rfl (a_ (bL_ o_ rfl rfl rfl x_) rfl (a_ (bj_ (ad := lad) F_ rfl (fun v _ h => by exact h.2.2.1) (ak_ Fc.cells_len (show [ga, gb][0]? = some _ from rfl) 2 _ rfl)) rfl ?_)))))))))
  refine a_ (e_ rfl) rfl (d_ (b_ rfl (g_ ?_)))
  refine aI_ (by kernel_rfl) ?_
  refine K_ 21 [0, 1, 2, 3, 4, 5, 6, 7, 8, 9, 10, 11, 12] (by kernel_rfl) (fun _ a b => ⟨a, b⟩) (j_ rfl (h_ i_ rfl rfl rfl aF_) rfl (j_ rfl (m_ 0 bb_ rfl rfl rfl) rfl (j_ rfl (ah_ ag_ k_ rfl rfl (fun v _ h => aN_ (n := 6) Fc.cells_len (by decide) (by exact h.2.2.1) (show [ga, gb][0]? = some _ from rfl)) (by omega) (by first | omega | (simp; done))) rfl (j_ rfl (aM_ (ad := lad) (us := Fc.cells ga) R_ k_ rfl (fun v _ h => by exact h.2.2.1) (Fc.cells_len _) (ak_ Fc.cells_len (show [ga, gb][0]? = some _ from rfl))) rfl (j_ rfl (h_ i_ rfl rfl rfl k_) rfl (j_ rfl (h_ o_ rfl rfl rfl x_) rfl (j_ rfl (m_ 0 F_ rfl rfl rfl) rfl (j_ rfl (h_ i_ rfl rfl rfl aF_) rfl (j_ rfl (m_ 0 bb_ rfl rfl rfl) rfl ?_)))))))))
  refine j_ rfl (ah_ ag_ k_ rfl rfl (fun v _ h => aN_ (n := 6) Fc.cells_len (by decide) (by exact h.2.2.1) (show [ga, gb][0]? = some _ from rfl)) (by omega) (by first | omega | (simp; done))) rfl (j_ rfl (bL_ o_ rfl rfl rfl x_) rfl (j_ rfl (bj_ (ad := lad) F_ rfl (fun v _ h => by exact h.2.2.1) (ak_ Fc.cells_len (show [ga, gb][0]? = some _ from rfl) 3 _ rfl)) rfl (j_ rfl (f_ rfl) rfl (J_ (I_ 13 rfl (by kernel_rfl) (P_ (dx_ (Fc.a f) (Fc.r ga) (Fc.b ga)) rfl B_ (fun _ _ _ => by exact trivial) rfl fun _ => ?_))))))
  refine d_ (q_ rfl (A_ (fun _ a b => ⟨a, b⟩) (K_ 18 [14, 15] (by kernel_rfl) (fun _ a b => ⟨a, b⟩) ?_)))
  refine bk_ rfl (ap_ (p := ga) (q := (bq_ (Fc.a f) (Fc.r ga) (Fc.b ga))) rfl rfl) rfl fun r1 hr1 => ?_
  refine j_ rfl (f_ rfl) rfl (J_ ?_)
  cases r1
  · skip
    replace hr1 := of_decide_eq_false hr1
    refine K_ 0 [16, 17, 18, 19, 20, 21, 22, 23, 24, 25, 26, 27, 28, 29, 30, 31, 32, 33] (by kernel_rfl) (fun _ a b => ⟨a, b⟩) (v_ rfl rfl rfl rfl rfl (v_ rfl rfl rfl rfl rfl (v_ rfl rfl rfl rfl rfl (v_ rfl rfl rfl rfl rfl (v_ rfl rfl rfl rfl rfl (v_ rfl rfl rfl rfl rfl (v_ rfl rfl rfl rfl rfl (j_ rfl (t_ rfl rfl) rfl (j_ rfl (f_ rfl) rfl ?_)))))))))
    refine v_ rfl rfl rfl rfl rfl (v_ rfl rfl rfl rfl rfl (v_ rfl rfl rfl rfl rfl (v_ rfl rfl rfl rfl rfl (v_ rfl rfl rfl rfl rfl (v_ rfl rfl rfl rfl rfl (v_ rfl rfl rfl rfl rfl (j_ rfl (t_ rfl rfl) rfl (j_ rfl (e_ rfl) rfl (J_ ?_)))))))))
    refine S_ (by kernel_rfl) (b_ rfl (u_ ?_))
    exact Y_ Tryz.results138 () (s_ rfl (by have p1 := eq_false hr1; simp only [nk_, p1, if_true, if_false, decide_true, decide_false, Bool.and_true, Bool.and_false, Bool.true_and, Bool.false_and, Bool.or_true, Bool.or_false, Bool.true_or, Bool.false_or, Bool.not_true, Bool.not_false, ne_eq, not_true_eq_false, not_false_eq_true, true_and, and_true, false_and, and_false, true_or, or_true, false_or, or_false, ite_true, ite_false, Bool.false_eq_true])) B_ (fun _ _ _ => trivial)
  · skip
    replace hr1 := of_decide_eq_true hr1
    refine K_ 13 [16, 17, 18, 19, 20] (by kernel_rfl) (fun _ a b => ⟨a, b⟩) (p_ rfl rfl rfl (h_ i_ rfl rfl rfl aF_) rfl (p_ rfl rfl rfl (m_ 0 bb_ rfl rfl rfl) rfl (p_ rfl rfl rfl (ah_ ag_ k_ rfl rfl (fun v _ h => aN_ (n := 6) Fc.cells_len (by decide) (by exact h.2.2.1) (show [ga, gb][1]? = some _ from rfl)) (by omega) (by first | omega | (simp; done))) rfl (p_ rfl rfl rfl (aM_ (ad := lad) (us := Fc.cells gb) R_ k_ rfl (fun v _ h => by exact h.2.2.1) (Fc.cells_len _) (ak_ Fc.cells_len (show [ga, gb][1]? = some _ from rfl))) rfl (p_ rfl rfl rfl (f_ rfl) rfl (J_ (I_ 21 rfl (by kernel_rfl) (l_ rfl rfl (P_ (by_ (Fc.b ga) [33]) rfl B_ (fun _ _ _ => by exact trivial) rfl fun _ => ?_)))))))))
    refine d_ (q_ rfl (A_ (fun _ a b => ⟨a, b⟩) (K_ 9 [22, 23, 24] (by kernel_rfl) (fun _ a b => ⟨a, b⟩) ?_)))
    refine ar_ rfl rfl rfl (ap_ (p := gb) (q := (aE_ (Fc.b ga) [33])) rfl rfl) rfl fun r2 hr2 => ?_
    refine j_ rfl (z_ rfl rfl) rfl (j_ rfl (f_ rfl) rfl (J_ ?_))
    cases r2
    · skip
      replace hr2 := of_decide_eq_false hr2
      refine K_ 0 [25, 26, 27, 28, 29, 30, 31, 32, 33] (by kernel_rfl) (fun _ a b => ⟨a, b⟩) (v_ rfl rfl rfl rfl rfl (v_ rfl rfl rfl rfl rfl (v_ rfl rfl rfl rfl rfl (v_ rfl rfl rfl rfl rfl (v_ rfl rfl rfl rfl rfl (v_ rfl rfl rfl rfl rfl (v_ rfl rfl rfl rfl rfl (j_ rfl (t_ rfl rfl) rfl (j_ rfl (e_ rfl) rfl ?_)))))))))
      refine J_ (S_ (by kernel_rfl) (b_ rfl (u_ ?_)))
      exact Y_ Tryz.results138 () (s_ rfl (by have p1 := eq_true hr1; have p2 := eq_false hr2; simp only [nk_, p1, p2, if_true, if_false, decide_true, decide_false, Bool.and_true, Bool.and_false, Bool.true_and, Bool.false_and, Bool.or_true, Bool.or_false, Bool.true_or, Bool.false_or, Bool.not_true, Bool.not_false, ne_eq, not_true_eq_false, not_false_eq_true, true_and, and_true, false_and, and_false, true_or, or_true, false_or, or_false, ite_true, ite_false, Bool.false_eq_true])) B_ (fun _ _ _ => trivial)
    · skip
      replace hr2 := of_decide_eq_true hr2
      refine K_ 4 [25, 26, 27, 28, 29] (by kernel_rfl) (fun _ a b => ⟨a, b⟩) (p_ rfl rfl rfl (h_ i_ rfl rfl rfl k_) rfl (p_ rfl rfl rfl (O_ 0 R_ k_ rfl rfl rfl) rfl (p_ rfl rfl rfl (h_ i_ rfl rfl rfl k_) rfl (p_ rfl rfl rfl (h_ o_ rfl rfl rfl x_) rfl (p_ rfl rfl rfl (m_ 0 F_ rfl rfl rfl) rfl (J_ (I_ 30 rfl (by kernel_rfl) (l_ rfl rfl (P_ (by_ (Fc.a f) [33]) rfl B_ (fun _ _ _ => by exact trivial) rfl fun _ => ?_)))))))))
      refine d_ (q_ rfl (A_ (fun _ a b => ⟨a, b⟩) (K_ 0 [31, 32, 33] (by kernel_rfl) (fun _ a b => ⟨a, b⟩) ?_)))
      refine ar_ rfl rfl rfl (ap_ (p := f) (q := (aE_ (Fc.a f) [33])) rfl rfl) rfl fun r3 hr3 => ?_
      refine j_ rfl (z_ rfl rfl) rfl (j_ rfl (e_ rfl) rfl (J_ (S_ (by kernel_rfl) (b_ rfl (u_ ?_)))))
      exact Y_ Tryz.results138 () (s_ rfl (by have p1 := eq_true hr1; have p2 := eq_true hr2; rw [← hr3]; simp only [nk_, p1, p2, if_true, if_false, decide_true, decide_false, Bool.and_true, Bool.and_false, Bool.true_and, Bool.false_and, Bool.or_true, Bool.or_false, Bool.true_or, Bool.false_or, Bool.not_true, Bool.not_false, ne_eq, not_true_eq_false, not_false_eq_true, true_and, and_true, false_and, and_false, true_or, or_true, false_or, or_false, ite_true, ite_false, Bool.false_eq_true])) B_ (fun _ _ _ => trivial)
set_option maxHeartbeats 1000000 in
theorem ne_ (kn : Str → Bool) (q : List Str) (hkn : ∀ s, kn s = true ↔ s ∈ q) (es : Array MapEntry) (ec : Nat) (hE : SetE str es q) (vb ab : Nat) (pv fv : Value) (x : Pc) (f : Fc) (lad : Option Addr) (lcap : Nat) : Tri Tryz.prog 139 #[.agg #[zp_ vb 0, .int .i64 (Fc.kind f), str (Fc.a f), str (Fc.b f), str (Fc.r f), .int .i64 (Fc.lo f), .int .i64 (Fc.hi f), .slice lad (List.length ([] : List Fc)) lcap, .int .i64 (Pc.kind x), str (Pc.a x), str (Pc.b x), str (Pc.c x), str (Pc.r x), str (Pc.s x), str (Pc.t x), .int .i64 (Pc.lo x), .int .i64 (Pc.hi x), .int .i64 (Pc.frm x)]] [] [bV_ vb (.cells (cC_ pv ab fv).toArray 83 (0, 0)), bV_ ab (.map es ec), aR_ lad (List.flatMap Fc.cells ([] : List Fc))] (fun _ : Unit => .bool (jY_ kn x f zfc zfc)) (fun _ => []) (fun _ => []) := by
  refine T_ Tryz.func139 rfl rfl Tryz.ntmps139 rfl fun v0 => ?_
  refine g_ (c_ (aL_ rfl rfl fun b1 => ?_))
  refine a_ (e_ rfl) rfl (d_ (b_ rfl (g_ ?_)))
  refine aI_ (by kernel_rfl) ?_
  refine K_ 15 [0, 1, 2, 3, 4, 5, 6, 7, 8, 9] (by kernel_rfl) (fun _ a b => ⟨a, b⟩) (j_ rfl (h_ i_ rfl rfl rfl Tryz.sizeOf74) rfl (j_ rfl (m_ 0 Tryz.isAgg74 rfl rfl rfl) rfl (j_ rfl (aY_ rfl) rfl (j_ rfl (h_ ba_ rfl rfl rfl pb_) rfl (j_ rfl (cT_ Tryz.isAgg77 rfl (fun v _ h => by exact h.1) rfl) rfl (j_ rfl (h_ i_ rfl rfl rfl k_) rfl (j_ rfl (h_ o_ rfl rfl rfl x_) rfl (j_ rfl (m_ 0 F_ rfl rfl rfl) rfl ?_))))))))
  refine bk_ rfl (gl_ hkn (eW_ (k := (Fc.a f)) in_ dT_ Tryz.zeroValue4 rfl rfl hE (fun v _ h => (by exact h.2.1 : (bV_ ab (.map es ec)).p v).2))) rfl fun r1 hr1 => ?_
  refine j_ rfl (f_ rfl) rfl (J_ ?_)
  cases r1
  · skip
    refine K_ 0 [10, 11, 12, 13, 14, 15, 16, 17, 18, 19, 20, 21, 22, 23, 24] (by kernel_rfl) (fun _ a b => ⟨a, b⟩) (v_ rfl rfl rfl rfl rfl (v_ rfl rfl rfl rfl rfl (v_ rfl rfl rfl rfl rfl (v_ rfl rfl rfl rfl rfl (v_ rfl rfl rfl rfl rfl (v_ rfl rfl rfl rfl rfl (v_ rfl rfl rfl rfl rfl (v_ rfl rfl rfl rfl rfl (v_ rfl rfl rfl rfl rfl ?_)))))))))
    refine v_ rfl rfl rfl rfl rfl (v_ rfl rfl rfl rfl rfl (v_ rfl rfl rfl rfl rfl (v_ rfl rfl rfl rfl rfl (j_ rfl (t_ rfl rfl) rfl (j_ rfl (e_ rfl) rfl (J_ (S_ (by kernel_rfl) (b_ rfl (u_ ?_)))))))))
    exact Y_ Tryz.results139 () (s_ rfl (by simp only [jY_, hr1, if_true, if_false, decide_true, decide_false, Bool.and_true, Bool.and_false, Bool.true_and, Bool.false_and, Bool.or_true, Bool.or_false, Bool.true_or, Bool.false_or, Bool.not_true, Bool.not_false, ne_eq, not_true_eq_false, not_false_eq_true, true_and, and_true, false_and, and_false, true_or, or_true, false_or, or_false, ite_true, ite_false, Bool.false_eq_true])) B_ (fun _ _ _ => trivial)
  · skip
    refine K_ 4 [10, 11, 12, 13, 14, 15, 16, 17, 18, 19, 20] (by kernel_rfl) (fun _ a b => ⟨a, b⟩) (p_ rfl rfl rfl (h_ i_ rfl rfl rfl k_) rfl (p_ rfl rfl rfl (O_ 0 R_ k_ rfl rfl rfl) rfl (p_ rfl rfl rfl (h_ i_ rfl rfl rfl k_) rfl (p_ rfl rfl rfl (h_ o_ rfl rfl rfl x_) rfl (p_ rfl rfl rfl (m_ 0 F_ rfl rfl rfl) rfl (p_ rfl rfl rfl (h_ i_ rfl rfl rfl ai_) rfl (p_ rfl rfl rfl (h_ M_ rfl rfl rfl x_) rfl (p_ rfl rfl rfl (m_ 0 F_ rfl rfl rfl) rfl (p_ rfl rfl rfl (h_ i_ rfl rfl rfl k_) rfl ?_)))))))))
    refine p_ rfl rfl rfl (h_ o_ rfl rfl rfl x_) rfl (p_ rfl rfl rfl (m_ 0 F_ rfl rfl rfl) rfl (J_ (I_ 21 rfl (by kernel_rfl) (l_ rfl rfl (P_ (dx_ (Fc.a f) (Pc.r x) (Fc.a f)) rfl B_ (fun _ _ _ => by exact trivial) rfl fun _ => ?_)))))
    refine d_ (q_ rfl (A_ (fun _ a b => ⟨a, b⟩) (K_ 0 [22, 23, 24] (by kernel_rfl) (fun _ a b => ⟨a, b⟩) ?_)))
    refine ar_ rfl rfl rfl (ap_ (p := f) (q := (bq_ (Fc.a f) (Pc.r x) (Fc.a f))) rfl rfl) rfl fun r2 hr2 => ?_
    refine j_ rfl (z_ rfl rfl) rfl (j_ rfl (e_ rfl) rfl (J_ (S_ (by kernel_rfl) (b_ rfl (u_ ?_)))))
    exact Y_ Tryz.results139 () (s_ rfl (by rw [← hr2]; simp only [jY_, hr1, if_true, if_false, decide_true, decide_false, Bool.and_true, Bool.and_false, Bool.true_and, Bool.false_and, Bool.or_true, Bool.or_false, Bool.true_or, Bool.false_or, Bool.not_true, Bool.not_false, ne_eq, not_true_eq_false, not_false_eq_true, true_and, and_true, false_and, and_false, true_or, or_true, false_or, or_false, ite_true, ite_false, Bool.false_eq_true])) B_ (fun _ _ _ => trivial)
set_option maxHeartbeats 1000000 in
theorem nd_ (kn : Str → Bool) (q : List Str) (hkn : ∀ s, kn s = true ↔ s ∈ q) (es : Array MapEntry) (ec : Nat) (hE : SetE str es q) (vb ab : Nat) (pv fv : Value) (x : Pc) (f ga : Fc) (lad : Option Addr) (lcap : Nat) : Tri Tryz.prog 140 #[.agg #[zp_ vb 0, .int .i64 (Fc.kind f), str (Fc.a f), str (Fc.b f), str (Fc.r f), .int .i64 (Fc.lo f), .int .i64 (Fc.hi f), .slice lad (List.length [ga]) lcap, .int .i64 (Pc.kind x), str (Pc.a x), str (Pc.b x), str (Pc.c x), str (Pc.r x), str (Pc.s x), str (Pc.t x), .int .i64 (Pc.lo x), .int .i64 (Pc.hi x), .int .i64 (Pc.frm x)]] [] [bV_ vb (.cells (cC_ pv ab fv).toArray 83 (0, 0)), bV_ ab (.map es ec), aR_ lad (List.flatMap Fc.cells [ga])] (fun _ : Unit => .bool (lj_ kn x f ga zfc)) (fun _ => []) (fun _ => []) := by
  refine T_ Tryz.func140 rfl rfl Tryz.ntmps140 rfl fun v0 => ?_
  refine g_ (c_ (aL_ rfl rfl fun b1 => ?_))
  refine a_ (e_ rfl) rfl (d_ (b_ rfl (g_ ?_)))
  refine aI_ (by kernel_rfl) ?_
  refine K_ 21 [0, 1, 2, 3, 4, 5, 6, 7, 8, 9] (by kernel_rfl) (fun _ a b => ⟨a, b⟩) (j_ rfl (h_ i_ rfl rfl rfl aF_) rfl (j_ rfl (m_ 0 bb_ rfl rfl rfl) rfl (j_ rfl (ah_ ag_ k_ rfl rfl (fun v _ h => aN_ (n := 6) Fc.cells_len (by decide) (by exact h.2.2.1) (show [ga][0]? = some _ from rfl)) (by omega) (by first | omega | (simp; done))) rfl (j_ rfl (aM_ (ad := lad) (us := Fc.cells ga) R_ k_ rfl (fun v _ h => by exact h.2.2.1) (Fc.cells_len _) (ak_ Fc.cells_len (show [ga][0]? = some _ from rfl))) rfl (j_ rfl (h_ i_ rfl rfl rfl k_) rfl (j_ rfl (h_ o_ rfl rfl rfl x_) rfl (j_ rfl (m_ 0 F_ rfl rfl rfl) rfl (j_ rfl (h_ i_ rfl rfl rfl ai_) rfl (j_ rfl (h_ M_ rfl rfl rfl x_) rfl ?_)))))))))
  refine j_ rfl (m_ 0 F_ rfl rfl rfl) rfl (J_ (I_ 10 rfl (by kernel_rfl) (P_ (by_ (Fc.a f) (Pc.a x)) rfl B_ (fun _ _ _ => by exact trivial) rfl fun _ => ?_)))
  refine d_ (q_ rfl (A_ (fun _ a b => ⟨a, b⟩) (K_ 18 [11, 12] (by kernel_rfl) (fun _ a b => ⟨a, b⟩) ?_)))
  refine bk_ rfl (ap_ (p := ga) (q := (aE_ (Fc.a f) (Pc.a x))) rfl rfl) rfl fun r1 hr1 => ?_
  refine j_ rfl (f_ rfl) rfl (J_ ?_)
  cases r1
  · skip
    replace hr1 := of_decide_eq_false hr1
    refine K_ 0 [13, 14, 15, 16, 17, 18, 19, 20, 21, 22, 23, 24, 25, 26, 27, 28, 29, 30] (by kernel_rfl) (fun _ a b => ⟨a, b⟩) (v_ rfl rfl rfl rfl rfl (v_ rfl rfl rfl rfl rfl (v_ rfl rfl rfl rfl rfl (v_ rfl rfl rfl rfl rfl (v_ rfl rfl rfl rfl rfl (v_ rfl rfl rfl rfl rfl (v_ rfl rfl rfl rfl rfl (v_ rfl rfl rfl rfl rfl (v_ rfl rfl rfl rfl rfl ?_)))))))))
    refine v_ rfl rfl rfl rfl rfl (v_ rfl rfl rfl rfl rfl (v_ rfl rfl rfl rfl rfl (v_ rfl rfl rfl rfl rfl (v_ rfl rfl rfl rfl rfl (v_ rfl rfl rfl rfl rfl (v_ rfl rfl rfl rfl rfl (j_ rfl (t_ rfl rfl) rfl (j_ rfl (e_ rfl) rfl (J_ ?_)))))))))
    refine S_ (by kernel_rfl) (b_ rfl (u_ ?_))
    exact Y_ Tryz.results140 () (s_ rfl (by have p1 := eq_false hr1; simp only [lj_, p1, if_true, if_false, decide_true, decide_false, Bool.and_true, Bool.and_false, Bool.true_and, Bool.false_and, Bool.or_true, Bool.or_false, Bool.true_or, Bool.false_or, Bool.not_true, Bool.not_false, ne_eq, not_true_eq_false, not_false_eq_true, true_and, and_true, false_and, and_false, true_or, or_true, false_or, or_false, ite_true, ite_false, Bool.false_eq_true])) B_ (fun _ _ _ => trivial)
  · skip
    replace hr1 := of_decide_eq_true hr1
    refine K_ 4 [13, 14, 15, 16, 17, 18, 19, 20, 21, 22, 23, 24, 25, 26] (by kernel_rfl) (fun _ a b => ⟨a, b⟩) (p_ rfl rfl rfl (h_ i_ rfl rfl rfl k_) rfl (p_ rfl rfl rfl (O_ 0 R_ k_ rfl rfl rfl) rfl (p_ rfl rfl rfl (h_ i_ rfl rfl rfl k_) rfl (p_ rfl rfl rfl (h_ o_ rfl rfl rfl x_) rfl (p_ rfl rfl rfl (m_ 0 F_ rfl rfl rfl) rfl (p_ rfl rfl rfl (h_ i_ rfl rfl rfl ai_) rfl (p_ rfl rfl rfl (h_ M_ rfl rfl rfl x_) rfl (p_ rfl rfl rfl (m_ 0 F_ rfl rfl rfl) rfl (p_ rfl rfl rfl (h_ i_ rfl rfl rfl ai_) rfl ?_)))))))))
    refine p_ rfl rfl rfl (h_ M_ rfl rfl rfl r_) rfl (p_ rfl rfl rfl (m_ 0 C_ rfl rfl rfl) rfl (p_ rfl rfl rfl (h_ i_ rfl rfl rfl ai_) rfl (p_ rfl rfl rfl (h_ M_ rfl rfl rfl r_) rfl (p_ rfl rfl rfl (m_ 0 C_ rfl rfl rfl) rfl (J_ (I_ 27 rfl (by kernel_rfl) (l_ rfl rfl (P_ (dL_ (Fc.a f) (Pc.r x) (Pc.lo x) (Pc.hi x)) rfl B_ (fun _ _ _ => by exact trivial) rfl fun _ => ?_))))))))
    refine d_ (q_ rfl (A_ (fun _ a b => ⟨a, b⟩) (K_ 0 [28, 29, 30] (by kernel_rfl) (fun _ a b => ⟨a, b⟩) ?_)))
    refine ar_ rfl rfl rfl (ap_ (p := f) (q := (aj_ (Fc.a f) (Pc.r x) (Pc.lo x) (Pc.hi x))) rfl rfl) rfl fun r2 hr2 => ?_
    refine j_ rfl (z_ rfl rfl) rfl (j_ rfl (e_ rfl) rfl (J_ (S_ (by kernel_rfl) (b_ rfl (u_ ?_)))))
    exact Y_ Tryz.results140 () (s_ rfl (by have p1 := eq_true hr1; rw [← hr2]; simp only [lj_, p1, if_true, if_false, decide_true, decide_false, Bool.and_true, Bool.and_false, Bool.true_and, Bool.false_and, Bool.or_true, Bool.or_false, Bool.true_or, Bool.false_or, Bool.not_true, Bool.not_false, ne_eq, not_true_eq_false, not_false_eq_true, true_and, and_true, false_and, and_false, true_or, or_true, false_or, or_false, ite_true, ite_false, Bool.false_eq_true])) B_ (fun _ _ _ => trivial)
set_option maxHeartbeats 1000000 in
theorem mZ_ (kn : Str → Bool) (q : List Str) (hkn : ∀ s, kn s = true ↔ s ∈ q) (es : Array MapEntry) (ec : Nat) (hE : SetE str es q) (vb ab : Nat) (pv fv : Value) (x : Pc) (f ga : Fc) (lad : Option Addr) (lcap : Nat) : Tri Tryz.prog 144 #[.agg #[zp_ vb 0, .int .i64 (Fc.kind f), str (Fc.a f), str (Fc.b f), str (Fc.r f), .int .i64 (Fc.lo f), .int .i64 (Fc.hi f), .slice lad (List.length [ga]) lcap, .int .i64 (Pc.kind x), str (Pc.a x), str (Pc.b x), str (Pc.c x), str (Pc.r x), str (Pc.s x), str (Pc.t x), .int .i64 (Pc.lo x), .int .i64 (Pc.hi x), .int .i64 (Pc.frm x)]] [] [bV_ vb (.cells (cC_ pv ab fv).toArray 83 (0, 0)), bV_ ab (.map es ec), aR_ lad (List.flatMap Fc.cells [ga])] (fun _ : Unit => .bool (np_ kn x f ga zfc)) (fun _ => []) (fun _ => []) := by
  refine T_ Tryz.func144 rfl rfl Tryz.ntmps144 rfl fun v0 => ?_
  refine g_ (c_ (aL_ rfl rfl fun b1 => ?_))
  refine a_ (e_ rfl) rfl (d_ (b_ rfl (g_ ?_)))
  refine aI_ (by kernel_rfl) ?_
  refine K_ 3 [0, 1, 2, 3, 4, 5, 6] (by kernel_rfl) (fun _ a b => ⟨a, b⟩) (j_ rfl (h_ i_ rfl rfl rfl aF_) rfl (j_ rfl (m_ 0 bb_ rfl rfl rfl) rfl (j_ rfl (ah_ ag_ k_ rfl rfl (fun v _ h => aN_ (n := 6) Fc.cells_len (by decide) (by exact h.2.2.1) (show [ga][0]? = some _ from rfl)) (by omega) (by first | omega | (simp; done))) rfl (j_ rfl (aM_ (ad := lad) (us := Fc.cells ga) R_ k_ rfl (fun v _ h => by exact h.2.2.1) (Fc.cells_len _) (ak_ Fc.cells_len (show [ga][0]? = some _ from rfl))) rfl (j_ rfl (h_ i_ rfl rfl rfl k_) rfl (j_ rfl (h_ o_ rfl rfl rfl x_) rfl (j_ rfl (m_ 0 F_ rfl rfl rfl) rfl (J_ (I_ 7 rfl (by kernel_rfl) ?_)))))))))
  refine P_ (by_ (Fc.a f) [33]) rfl B_ (fun _ _ _ => by exact trivial) rfl fun _ => ?_
  refine d_ (q_ rfl (A_ (fun _ a b => ⟨a, b⟩) (K_ 0 [8, 9] (by kernel_rfl) (fun _ a b => ⟨a, b⟩) ?_)))
  refine bk_ rfl (ap_ (p := ga) (q := (aE_ (Fc.a f) [33])) rfl rfl) rfl fun r1 hr1 => ?_
  refine j_ rfl (e_ rfl) rfl (J_ (S_ (by kernel_rfl) (b_ rfl (u_ ?_))))
  exact Y_ Tryz.results144 () (s_ rfl (by rw [← hr1]; simp only [np_, if_true, if_false, decide_true, decide_false, Bool.and_true, Bool.and_false, Bool.true_and, Bool.false_and, Bool.or_true, Bool.or_false, Bool.true_or, Bool.false_or, Bool.not_true, Bool.not_false, ne_eq, not_true_eq_false, not_false_eq_true, true_and, and_true, false_and, and_false, true_or, or_true, false_or, or_false, ite_true, ite_false, Bool.false_eq_true])) B_ (fun _ _ _ => trivial)
end Go.Proofs.YtaffcjgphlhppaaGreatDoor
namespace Go.Proofs.YtaffcjgphlhppaaGreatDoor
open Go Go.Sx Go.Proofs
attribute [local irreducible] Code.wp wpList wpAnyH
open Go.Vs
theorem kV_ : gy_ Tryz.prog 243 [(0, 1)] [.nilFunc] := ⟨_, Tryz.zeroValue243, Tryz.runUnderlying243, fun w => by simp [Tryz.sizeOf241]⟩
theorem ivG_c (a b : Int) : Fn0 Tryz.prog 242 #[.int .i64 a, .int .i64 b] (.bool (decide (b < a))) := by
  refine T_ Tryz.func242 rfl rfl Tryz.ntmps242 rfl fun v0 => ?_
  refine g_ (c_ (a_ (e_ rfl) rfl (d_ (b_ rfl (g_ (c_ (a_ (f_ rfl) rfl (a_ (f_ rfl) rfl (E_ (bx_ rfl rfl) rfl fun r1 hr1 => ?_)))))))))
  refine a_ (e_ rfl) rfl (d_ (b_ rfl (u_ ?_)))
  exact Y_ Tryz.results242 () (s_ rfl (hr1).symm) B_ (fun _ _ _ => trivial)
theorem ivL_c (a b : Int) : Fn0 Tryz.prog 243 #[.int .i64 a, .int .i64 b] (.bool (decide (a < b))) := by
  refine T_ Tryz.func243 rfl rfl Tryz.ntmps243 rfl fun v0 => ?_
  refine g_ (c_ (a_ (e_ rfl) rfl (d_ (b_ rfl (g_ (c_ (a_ (f_ rfl) rfl (a_ (f_ rfl) rfl (E_ (au_ rfl rfl) rfl fun r1 hr1 => ?_)))))))))
  refine a_ (e_ rfl) rfl (d_ (b_ rfl (u_ ?_)))
  exact Y_ Tryz.results243 () (s_ rfl (hr1).symm) B_ (fun _ _ _ => trivial)
theorem ivGr_c : Fn0 Tryz.prog 209 #[] (.agg #[.func (.func 242) #[] #[]]) := by
  refine T_ Tryz.func209 rfl rfl Tryz.ntmps209 rfl fun v0 => ?_
  refine g_ (c_ (ad_ Tryz.zeroValue243 rfl fun b1 => ?_))
  refine d_ (b_ rfl (g_ (c_ (a_ (ax_ kV_ rfl rfl) rfl (X_ 0 Tryz.sizeOf243 rfl rfl rfl rfl rfl rfl (d_ (b_ rfl (u_ ?_))))))))
  exact fB_ () (fun aa v h1 h2 => ck_ (us := [.func (.func 242) #[] #[]]) 0 Tryz.results209 Tryz.isAgg243 Tryz.sizeOf243 rfl rfl rfl aa v h1 h2) B_ (fun _ _ _ => trivial)
theorem ivLe_c : Fn0 Tryz.prog 211 #[] (.agg #[.func (.func 243) #[] #[]]) := by
  refine T_ Tryz.func211 rfl rfl Tryz.ntmps211 rfl fun v0 => ?_
  refine g_ (c_ (ad_ Tryz.zeroValue243 rfl fun b1 => ?_))
  refine d_ (b_ rfl (g_ (c_ (a_ (ax_ kV_ rfl rfl) rfl (X_ 0 Tryz.sizeOf243 rfl rfl rfl rfl rfl rfl (d_ (b_ rfl (u_ ?_))))))))
  exact fB_ () (fun aa v h1 h2 => ck_ (us := [.func (.func 243) #[] #[]]) 0 Tryz.results211 Tryz.isAgg243 Tryz.sizeOf243 rfl rfl rfl aa v h1 h2) B_ (fun _ _ _ => trivial)
theorem oD_ (a b : Int) : Fn0 Tryz.prog 210 #[.agg #[.func (.func 242) #[] #[]], .int .i64 a, .int .i64 b] (.int .i64 (max a b)) := by
  refine T_ Tryz.func210 rfl rfl Tryz.ntmps210 rfl fun v0 => ?_
  refine g_ (c_ (aL_ rfl rfl fun b1 => ?_))
  refine a_ (e_ rfl) rfl (d_ (b_ rfl (g_ (g_ (c_ (a_ (h_ Tryz.runUnderlying243 rfl rfl rfl Tryz.sizeOf241) rfl (a_ (m_ 0 Tryz.isAgg241 rfl rfl rfl) rfl (a_ (f_ rfl) rfl (a_ (f_ rfl) rfl ?_)))))))))
  refine bE_ (ivG_c a b) rfl rfl B_ (fun _ _ _ => by exact trivial) rfl fun r1 hr1 => ?_
  refine d_ (b_ rfl ?_)
  cases r1
  · skip
    replace hr1 := of_decide_eq_false hr1
    refine y_ rfl (L_ (b_ rfl (g_ (c_ (a_ (f_ rfl) rfl (a_ (e_ rfl) rfl (d_ (b_ rfl (u_ ?_)))))))))
    exact Y_ Tryz.results210 () (aA_ rfl (by omega)) B_ (fun _ _ _ => trivial)
  · skip
    replace hr1 := of_decide_eq_true hr1
    refine w_ rfl (g_ (c_ (a_ (f_ rfl) rfl (a_ (e_ rfl) rfl (d_ (b_ rfl (u_ ?_)))))))
    exact Y_ Tryz.results210 () (aA_ rfl (by omega)) B_ (fun _ _ _ => trivial)
theorem oC_ (a b : Int) : Fn0 Tryz.prog 210 #[.agg #[.func (.func 243) #[] #[]], .int .i64 a, .int .i64 b] (.int .i64 (min a b)) := by
  refine T_ Tryz.func210 rfl rfl Tryz.ntmps210 rfl fun v0 => ?_
  refine g_ (c_ (aL_ rfl rfl fun b1 => ?_))
  refine a_ (e_ rfl) rfl (d_ (b_ rfl (g_ (g_ (c_ (a_ (h_ Tryz.runUnderlying243 rfl rfl rfl Tryz.sizeOf241) rfl (a_ (m_ 0 Tryz.isAgg241 rfl rfl rfl) rfl (a_ (f_ rfl) rfl (a_ (f_ rfl) rfl ?_)))))))))
  refine bE_ (ivL_c a b) rfl rfl B_ (fun _ _ _ => by exact trivial) rfl fun r1 hr1 => ?_
  refine d_ (b_ rfl ?_)
  cases r1
  · skip
    replace hr1 := of_decide_eq_false hr1
    refine y_ rfl (L_ (b_ rfl (g_ (c_ (a_ (f_ rfl) rfl (a_ (e_ rfl) rfl (d_ (b_ rfl (u_ ?_)))))))))
    exact Y_ Tryz.results210 () (aA_ rfl (by omega)) B_ (fun _ _ _ => trivial)
  · skip
    replace hr1 := of_decide_eq_true hr1
    refine w_ rfl (g_ (c_ (a_ (f_ rfl) rfl (a_ (e_ rfl) rfl (d_ (b_ rfl (u_ ?_)))))))
    exact Y_ Tryz.results210 () (aA_ rfl (by omega)) B_ (fun _ _ _ => trivial)
def nh_ (i : Int × Int) : Prop := -1099511627776 ≤ i.1 ∧ i.1 ≤ i.2 ∧ i.2 ≤ 1099511627776
theorem lN_ {a b : Int × Int} (ha : nh_ a) (hb : nh_ b) : dG_ [a, b] = 0 := by
  have e : ∀ i : Int × Int, nh_ i → dy_ i = 0 := fun i h => by
    obtain ⟨h1, h2, h3⟩ := h
    unfold dy_; rw [if_neg (by omega), if_neg (by omega)]
  simp [dG_, fF_, e a ha, e b hb]
def eb_ (i j : Int × Int) : (Int × Int) × Int := if max i.1 j.1 ≤ min i.2 j.2 then ((max i.1 j.1, min i.2 j.2), 0) else ((0, 0), 80)
theorem mN_ {P : Program} {N : Nat} {fr : Fr} {H : Hp} {fn : Func} {t s b n : Nat} {ty T : TypeId} {us : List Value} {u : Value} (i : Nat) (hr : fn.results = #[.cell t ty, .tmp s]) (ha : ∀ w, (isAgg ty).run P w = .ok true w) (hs : ∀ w, (sizeOf ty).run P w = .ok n w) (hn : us.length = n) (hx : Fr.get fr t = some (zp_ b 0)) (hu : Fr.get fr s = some u)
    (hi : H[i]? = some (b, .cells us.toArray T (0, 0))) (a : Act) (v : Vw) (h1 : Fr.sat N fr a) (h2 : v.sat H) : (results fn a.tmps).run P v.w = .ok (.tuple #[.agg us.toArray, u]) v.w := by
  have e := h1.val t _ hx
  have e' := h1.val s _ hu
  have hl := cp_ (t := ty) (w := v.w) (b := b) (off := 0) ha hs hn (fun j y hj => by rw [Nat.zero_add, dW_ h2 hi]; simpa using hj)
  simp [results, hr, e, e', asAddr, hl]
theorem fZ_ (i j : Int × Int) (hi : nh_ i) (hj : nh_ j) : Tri Tryz.prog 182 #[ivV i, ivV j] [] [] (fun y : {y : (Int × Int) × Int // y = eb_ i j} => .tuple #[ivV y.1.1, .int .i64 y.1.2]) (fun _ => []) (fun _ => []) := by
  refine T_ Tryz.func182 rfl rfl Tryz.ntmps182 rfl fun v0 => ?_
  refine g_ (c_ (aL_ rfl rfl fun b1 => ?_))
  refine aL_ rfl rfl fun b2 => ?_
  refine ad_ ao_ rfl fun b3 => ?_
  refine a_ (e_ rfl) rfl (d_ (b_ rfl (g_ (g_ (c_ (a_ (O_ 2 bU_ Z_ rfl rfl rfl) rfl (a_ (O_ 1 bU_ Z_ rfl rfl rfl) rfl (aX_ lz_ Z_ ao_ rfl rfl rfl rfl rfl rfl fun b4 => ?_))))))))
  refine bC_ (List.flatMap ivC [i, j]) D_ rfl ?_
  refine P_ (li_ [i, j] (some ⟨b4, 0, none⟩) 2 (by simp)) rfl B_ (fun v _ h => by exact ⟨h.1, trivial⟩) rfl fun _ => ?_
  refine a_ (e_ rfl) rfl (d_ (b_ rfl (g_ (c_ (a_ (f_ rfl) rfl (E_ (bw_ rfl rfl) rfl fun r1 hr1 => ?_))))))
  refine d_ (b_ rfl ?_)
  cases r1
  · skip
    replace hr1 := bt_ hr1
    refine y_ rfl (L_ (b_ rfl (g_ ?_)))
    refine cq_ ((b2, .cells #[.int .i64 (Prod.fst j), .int .i64 (Prod.snd j)] 196 (0, 0)) :: ((b1, .cells #[.int .i64 (Prod.fst i), .int .i64 (Prod.snd i)] 196 (0, 0)) :: [])) (by kernel_rfl) ?_
    refine K_ 6 [1, 2, 3, 4, 7, 8, 9, 10] (by kernel_rfl) (fun _ a b => ⟨a.tail, b⟩) (j_ rfl (h_ G_ rfl rfl rfl r_) rfl (j_ rfl (m_ 1 C_ rfl rfl rfl) rfl (j_ rfl (h_ G_ rfl rfl rfl r_) rfl (j_ rfl (m_ 0 C_ rfl rfl rfl) rfl (j_ rfl (h_ G_ rfl rfl rfl r_) rfl (j_ rfl (m_ 1 C_ rfl rfl rfl) rfl (j_ rfl (h_ G_ rfl rfl rfl r_) rfl (j_ rfl (m_ 0 C_ rfl rfl rfl) rfl (J_ ?_)))))))))
    refine I_ 0 rfl (by kernel_rfl) (P_ (ivGr_c) rfl B_ (fun _ _ _ => by exact trivial) rfl fun _ => ?_)
    refine d_ (q_ rfl (A_ (fun _ a b => ⟨a.tail, b⟩) (I_ 5 rfl (by kernel_rfl) (P_ (oD_ (Prod.fst i) (Prod.fst j)) rfl B_ (fun _ _ _ => by exact trivial) rfl fun _ => ?_))))
    refine d_ (q_ rfl (A_ (fun _ a b => ⟨a.tail, b⟩) (I_ 6 rfl (by kernel_rfl) (P_ (ivLe_c) rfl B_ (fun _ _ _ => by exact trivial) rfl fun _ => ?_))))
    refine d_ (q_ rfl (A_ (fun _ a b => ⟨a.tail, b⟩) (I_ 11 rfl (by kernel_rfl) (P_ (oC_ (Prod.snd i) (Prod.snd j)) rfl B_ (fun _ _ _ => by exact trivial) rfl fun _ => ?_))))
    refine d_ (q_ rfl (A_ (fun _ a b => ⟨a.tail, b⟩) (K_ 1 [12] (by kernel_rfl) (fun _ a b => ⟨a.tail, b⟩) (j_ rfl (ax_ eH_ rfl rfl) rfl (J_ (I_ 13 rfl (by kernel_rfl) (X_ 0 Z_ rfl rfl rfl rfl rfl rfl (d_ (q_ rfl ?_)))))))))
    refine A_ (fun _ a b => ⟨a.tail, b⟩) (S_ (by kernel_rfl) (b_ rfl (g_ (g_ (c_ (a_ (h_ G_ rfl rfl rfl r_) rfl (a_ (m_ 0 C_ rfl rfl rfl) rfl (a_ (h_ G_ rfl rfl rfl r_) rfl (a_ (m_ 0 C_ rfl rfl rfl) rfl ?_)))))))))
    refine E_ (bx_ rfl rfl) rfl fun r2 hr2 => ?_
    refine d_ (b_ rfl ?_)
    cases r2
    · skip
      replace hr2 := of_decide_eq_false hr2
      refine y_ rfl (L_ (b_ rfl (g_ (c_ (a_ (O_ 0 bU_ Z_ rfl rfl rfl) rfl (X_ 0 Z_ rfl rfl rfl rfl rfl rfl (a_ (e_ rfl) rfl (d_ (b_ rfl ?_)))))))))
      refine u_ ?_
      have hz : eb_ i j = (((max (Prod.fst i) (Prod.fst j)), (min (Prod.snd i) (Prod.snd j))), 0) := by unfold eb_; first | rw [if_pos (by omega)] | rw [if_neg (by omega)]
      exact fB_ ⟨eb_ i j, rfl⟩ (fun aa v h1 h2 => by rw [hz]; exact mN_ 0 Tryz.results182 bU_ Z_ rfl rfl rfl rfl aa v h1 h2) B_ (fun _ _ _ => trivial)
    · skip
      replace hr2 := of_decide_eq_true hr2
      refine w_ rfl (g_ (c_ (a_ (ax_ eH_ rfl rfl) rfl (X_ 0 Z_ rfl rfl rfl rfl rfl rfl (a_ (e_ rfl) rfl (d_ (b_ rfl (u_ ?_))))))))
      have hz : eb_ i j = ((0, 0), 80) := by unfold eb_; first | rw [if_pos (by omega)] | rw [if_neg (by omega)]
      exact fB_ ⟨eb_ i j, rfl⟩ (fun aa v h1 h2 => by rw [hz]; exact mN_ 0 Tryz.results182 bU_ Z_ rfl rfl rfl rfl aa v h1 h2) B_ (fun _ _ _ => trivial)
  · skip
    replace hr1 := bs_ hr1
    exfalso; exact hr1 (lN_ hi hj)
theorem im_ (feat : Str) (kn : Str → Bool) (q : List Str) (hkn : ∀ s, kn s = true ↔ s ∈ q) (es : Array MapEntry) (ec : Nat) (hE : SetE str es q) (vb ab : Nat) (pv fv : Value) (x : Pc) (f ga : Fc) (lad : Option Addr) (lcap : Nat) : TriX Tryz.prog 183 #[.agg #[zp_ vb 0, .int .i64 (Fc.kind f), str (Fc.a f), str (Fc.b f), str (Fc.r f), .int .i64 (Fc.lo f), .int .i64 (Fc.hi f), .slice lad (List.length [ga]) lcap, .int .i64 (Pc.kind x), str (Pc.a x), str (Pc.b x), str (Pc.c x), str (Pc.r x), str (Pc.s x), str (Pc.t x), .int .i64 (Pc.lo x), .int .i64 (Pc.hi x), .int .i64 (Pc.frm x)], .int .i64 0, str feat] [] [bV_ vb (.cells (cC_ pv ab fv).toArray 83 (0, 0)), bV_ ab (.map es ec), aR_ lad (List.flatMap Fc.cells [ga])] (fun _ : {u : Unit // ga = aj_ (Fc.a f) feat (Fc.lo ga) (Fc.hi ga)} => .agg #[.int .i64 (Fc.lo ga), .int .i64 (Fc.hi ga)]) (fun _ => []) (fun _ => []) (¬ ga = aj_ (Fc.a f) feat (Fc.lo ga) (Fc.hi ga)) := by
  refine bd_ Tryz.func183 rfl rfl Tryz.ntmps183 rfl fun v0 => ?_
  refine g_ (c_ (aL_ rfl rfl fun b1 => ?_))
  refine ad_ ao_ rfl fun b2 => ?_
  refine d_ (b_ rfl (g_ (c_ (a_ (h_ i_ rfl rfl rfl aF_) rfl (a_ (m_ 1 bb_ rfl rfl rfl) rfl (a_ (f_ rfl) rfl (a_ (ah_ ag_ k_ rfl rfl (fun v _ h => aN_ (n := 6) Fc.cells_len (by decide) (by exact h.2.2.1) (show [ga][0]? = some _ from rfl)) (by omega) (by first | omega | (simp; done))) rfl (a_ (aM_ (ad := lad) (us := Fc.cells ga) R_ k_ rfl (fun v _ h => by exact h.2.2.1) (Fc.cells_len _) (ak_ Fc.cells_len (show [ga][0]? = some _ from rfl))) rfl (ad_ aS_ rfl fun b3 => ?_)))))))))
  refine X_ 0 k_ rfl rfl rfl rfl rfl rfl (d_ (b_ rfl (g_ ?_)))
  refine aI_ (by kernel_rfl) ?_
  refine K_ 3 [0, 1, 2, 3, 4, 5, 6, 7, 8] (by kernel_rfl) (fun _ a b => ⟨a, b⟩) (j_ rfl (O_ 0 R_ k_ rfl rfl rfl) rfl (j_ rfl (h_ i_ rfl rfl rfl k_) rfl (j_ rfl (h_ o_ rfl rfl rfl x_) rfl (j_ rfl (m_ 2 F_ rfl rfl rfl) rfl (j_ rfl (f_ rfl) rfl (j_ rfl (h_ o_ rfl rfl rfl r_) rfl (j_ rfl (m_ 0 C_ rfl rfl rfl) rfl (j_ rfl (h_ o_ rfl rfl rfl r_) rfl (j_ rfl (m_ 0 C_ rfl rfl rfl) rfl ?_)))))))))
  refine J_ (I_ 9 rfl (by kernel_rfl) (P_ (dL_ (Fc.a f) feat (Fc.lo ga) (Fc.hi ga)) rfl B_ (fun _ _ _ => by exact trivial) rfl fun _ => ?_))
  refine d_ (q_ rfl (A_ (fun _ a b => ⟨a, b⟩) (K_ 1 [10] (by kernel_rfl) (fun _ a b => ⟨a, b⟩) ?_)))
  refine bk_ rfl (ap_ (p := ga) (q := (aj_ (Fc.a f) feat (Fc.lo ga) (Fc.hi ga))) rfl rfl) rfl fun r1 hr1 => ?_
  refine J_ (I_ 11 rfl (by kernel_rfl) (al_ (cL_ r1) rfl B_ (fun _ _ _ => by exact trivial) rfl (fun hb => ce_ ((by rw [hb] at hr1; exact of_decide_eq_false hr1))) fun ⟨_, hn1⟩ => ?_))
  try dsimp only
  have hspn : ga = aj_ (Fc.a f) feat (Fc.lo ga) (Fc.hi ga) := of_decide_eq_true (hr1.trans hn1)
  refine d_ (q_ rfl (A_ (fun _ a b => ⟨a, b⟩) (S_ (by kernel_rfl) (b_ rfl (g_ (c_ (a_ (h_ o_ rfl rfl rfl r_) rfl (a_ (m_ 0 C_ rfl rfl rfl) rfl (a_ (h_ o_ rfl rfl rfl r_) rfl ?_)))))))))
  refine a_ (m_ 0 C_ rfl rfl rfl) rfl (a_ (ax_ eH_ rfl rfl) rfl (X_ 1 Z_ rfl rfl rfl rfl rfl rfl (d_ (b_ rfl (u_ ?_)))))
  refine bN_ ?_
  exact fB_ ⟨(), hspn⟩ (fun aa v h1 h2 => ck_ (us := [_, _]) 1 Tryz.results183 bU_ Z_ rfl rfl rfl aa v h1 h2) B_ (fun _ _ _ => trivial)
theorem dw_ (feat : Str) (kn : Str → Bool) (q : List Str) (hkn : ∀ s, kn s = true ↔ s ∈ q) (es : Array MapEntry) (ec : Nat) (hE : SetE str es q) (vb ab : Nat) (pv fv : Value) (x : Pc) (f ga gb : Fc) (lad : Option Addr) (lcap : Nat) : TriX Tryz.prog 183 #[.agg #[zp_ vb 0, .int .i64 (Fc.kind f), str (Fc.a f), str (Fc.b f), str (Fc.r f), .int .i64 (Fc.lo f), .int .i64 (Fc.hi f), .slice lad (List.length [ga, gb]) lcap, .int .i64 (Pc.kind x), str (Pc.a x), str (Pc.b x), str (Pc.c x), str (Pc.r x), str (Pc.s x), str (Pc.t x), .int .i64 (Pc.lo x), .int .i64 (Pc.hi x), .int .i64 (Pc.frm x)], .int .i64 0, str feat] [] [bV_ vb (.cells (cC_ pv ab fv).toArray 83 (0, 0)), bV_ ab (.map es ec), aR_ lad (List.flatMap Fc.cells [ga, gb])] (fun _ : {u : Unit // ga = aj_ (Fc.a f) feat (Fc.lo ga) (Fc.hi ga)} => .agg #[.int .i64 (Fc.lo ga), .int .i64 (Fc.hi ga)]) (fun _ => []) (fun _ => []) (¬ ga = aj_ (Fc.a f) feat (Fc.lo ga) (Fc.hi ga)) := by
  refine bd_ Tryz.func183 rfl rfl Tryz.ntmps183 rfl fun v0 => ?_
  refine g_ (c_ (aL_ rfl rfl fun b1 => ?_))
  refine ad_ ao_ rfl fun b2 => ?_
  refine d_ (b_ rfl (g_ (c_ (a_ (h_ i_ rfl rfl rfl aF_) rfl (a_ (m_ 1 bb_ rfl rfl rfl) rfl (a_ (f_ rfl) rfl (a_ (ah_ ag_ k_ rfl rfl (fun v _ h => aN_ (n := 6) Fc.cells_len (by decide) (by exact h.2.2.1) (show [ga, gb][0]? = some _ from rfl)) (by omega) (by first | omega | (simp; done))) rfl (a_ (aM_ (ad := lad) (us := Fc.cells ga) R_ k_ rfl (fun v _ h => by exact h.2.2.1) (Fc.cells_len _) (ak_ Fc.cells_len (show [ga, gb][0]? = some _ from rfl))) rfl (ad_ aS_ rfl fun b3 => ?_)))))))))
  refine X_ 0 k_ rfl rfl rfl rfl rfl rfl (d_ (b_ rfl (g_ ?_)))
  refine aI_ (by kernel_rfl) ?_
  refine K_ 3 [0, 1, 2, 3, 4, 5, 6, 7, 8] (by kernel_rfl) (fun _ a b => ⟨a, b⟩) (j_ rfl (O_ 0 R_ k_ rfl rfl rfl) rfl (j_ rfl (h_ i_ rfl rfl rfl k_) rfl (j_ rfl (h_ o_ rfl rfl rfl x_) rfl (j_ rfl (m_ 2 F_ rfl rfl rfl) rfl (j_ rfl (f_ rfl) rfl (j_ rfl (h_ o_ rfl rfl rfl r_) rfl (j_ rfl (m_ 0 C_ rfl rfl rfl) rfl (j_ rfl (h_ o_ rfl rfl rfl r_) rfl (j_ rfl (m_ 0 C_ rfl rfl rfl) rfl ?_)))))))))
  refine J_ (I_ 9 rfl (by kernel_rfl) (P_ (dL_ (Fc.a f) feat (Fc.lo ga) (Fc.hi ga)) rfl B_ (fun _ _ _ => by exact trivial) rfl fun _ => ?_))
  refine d_ (q_ rfl (A_ (fun _ a b => ⟨a, b⟩) (K_ 1 [10] (by kernel_rfl) (fun _ a b => ⟨a, b⟩) ?_)))
  refine bk_ rfl (ap_ (p := ga) (q := (aj_ (Fc.a f) feat (Fc.lo ga) (Fc.hi ga))) rfl rfl) rfl fun r1 hr1 => ?_
  refine J_ (I_ 11 rfl (by kernel_rfl) (al_ (cL_ r1) rfl B_ (fun _ _ _ => by exact trivial) rfl (fun hb => ce_ ((by rw [hb] at hr1; exact of_decide_eq_false hr1))) fun ⟨_, hn1⟩ => ?_))
  try dsimp only
  have hspn : ga = aj_ (Fc.a f) feat (Fc.lo ga) (Fc.hi ga) := of_decide_eq_true (hr1.trans hn1)
  refine d_ (q_ rfl (A_ (fun _ a b => ⟨a, b⟩) (S_ (by kernel_rfl) (b_ rfl (g_ (c_ (a_ (h_ o_ rfl rfl rfl r_) rfl (a_ (m_ 0 C_ rfl rfl rfl) rfl (a_ (h_ o_ rfl rfl rfl r_) rfl ?_)))))))))
  refine a_ (m_ 0 C_ rfl rfl rfl) rfl (a_ (ax_ eH_ rfl rfl) rfl (X_ 1 Z_ rfl rfl rfl rfl rfl rfl (d_ (b_ rfl (u_ ?_)))))
  refine bN_ ?_
  exact fB_ ⟨(), hspn⟩ (fun aa v h1 h2 => ck_ (us := [_, _]) 1 Tryz.results183 bU_ Z_ rfl rfl rfl aa v h1 h2) B_ (fun _ _ _ => trivial)
theorem cc_ (feat : Str) (kn : Str → Bool) (q : List Str) (hkn : ∀ s, kn s = true ↔ s ∈ q) (es : Array MapEntry) (ec : Nat) (hE : SetE str es q) (vb ab : Nat) (pv fv : Value) (x : Pc) (f ga gb : Fc) (lad : Option Addr) (lcap : Nat) : TriX Tryz.prog 183 #[.agg #[zp_ vb 0, .int .i64 (Fc.kind f), str (Fc.a f), str (Fc.b f), str (Fc.r f), .int .i64 (Fc.lo f), .int .i64 (Fc.hi f), .slice lad (List.length [ga, gb]) lcap, .int .i64 (Pc.kind x), str (Pc.a x), str (Pc.b x), str (Pc.c x), str (Pc.r x), str (Pc.s x), str (Pc.t x), .int .i64 (Pc.lo x), .int .i64 (Pc.hi x), .int .i64 (Pc.frm x)], .int .i64 1, str feat] [] [bV_ vb (.cells (cC_ pv ab fv).toArray 83 (0, 0)), bV_ ab (.map es ec), aR_ lad (List.flatMap Fc.cells [ga, gb])] (fun _ : {u : Unit // gb = aj_ (Fc.a f) feat (Fc.lo gb) (Fc.hi gb)} => .agg #[.int .i64 (Fc.lo gb), .int .i64 (Fc.hi gb)]) (fun _ => []) (fun _ => []) (¬ gb = aj_ (Fc.a f) feat (Fc.lo gb) (Fc.hi gb)) := by
  refine bd_ Tryz.func183 rfl rfl Tryz.ntmps183 rfl fun v0 => ?_
  refine g_ (c_ (aL_ rfl rfl fun b1 => ?_))
  refine ad_ ao_ rfl fun b2 => ?_
  refine d_ (b_ rfl (g_ (c_ (a_ (h_ i_ rfl rfl rfl aF_) rfl (a_ (m_ 1 bb_ rfl rfl rfl) rfl (a_ (f_ rfl) rfl (a_ (ah_ ag_ k_ rfl rfl (fun v _ h => aN_ (n := 6) Fc.cells_len (by decide) (by exact h.2.2.1) (show [ga, gb][1]? = some _ from rfl)) (by omega) (by first | omega | (simp; done))) rfl (a_ (aM_ (ad := lad) (us := Fc.cells gb) R_ k_ rfl (fun v _ h => by exact h.2.2.1) (Fc.cells_len _) (ak_ Fc.cells_len (show [ga, gb][1]? = some _ from rfl))) rfl (ad_ aS_ rfl fun b3 => ?_)))))))))
  refine X_ 0 k_ rfl rfl rfl rfl rfl rfl (d_ (b_ rfl (g_ ?_)))
  refine aI_ (by kernel_rfl) ?_
  refine K_ 3 [0, 1, 2, 3, 4, 5, 6, 7, 8] (by kernel_rfl) (fun _ a b => ⟨a, b⟩) (j_ rfl (O_ 0 R_ k_ rfl rfl rfl) rfl (j_ rfl (h_ i_ rfl rfl rfl k_) rfl (j_ rfl (h_ o_ rfl rfl rfl x_) rfl (j_ rfl (m_ 2 F_ rfl rfl rfl) rfl (j_ rfl (f_ rfl) rfl (j_ rfl (h_ o_ rfl rfl rfl r_) rfl (j_ rfl (m_ 0 C_ rfl rfl rfl) rfl (j_ rfl (h_ o_ rfl rfl rfl r_) rfl (j_ rfl (m_ 0 C_ rfl rfl rfl) rfl ?_)))))))))
  refine J_ (I_ 9 rfl (by kernel_rfl) (P_ (dL_ (Fc.a f) feat (Fc.lo gb) (Fc.hi gb)) rfl B_ (fun _ _ _ => by exact trivial) rfl fun _ => ?_))
  refine d_ (q_ rfl (A_ (fun _ a b => ⟨a, b⟩) (K_ 1 [10] (by kernel_rfl) (fun _ a b => ⟨a, b⟩) ?_)))
  refine bk_ rfl (ap_ (p := gb) (q := (aj_ (Fc.a f) feat (Fc.lo gb) (Fc.hi gb))) rfl rfl) rfl fun r1 hr1 => ?_
  refine J_ (I_ 11 rfl (by kernel_rfl) (al_ (cL_ r1) rfl B_ (fun _ _ _ => by exact trivial) rfl (fun hb => ce_ ((by rw [hb] at hr1; exact of_decide_eq_false hr1))) fun ⟨_, hn1⟩ => ?_))
  try dsimp only
  have hspn : gb = aj_ (Fc.a f) feat (Fc.lo gb) (Fc.hi gb) := of_decide_eq_true (hr1.trans hn1)
  refine d_ (q_ rfl (A_ (fun _ a b => ⟨a, b⟩) (S_ (by kernel_rfl) (b_ rfl (g_ (c_ (a_ (h_ o_ rfl rfl rfl r_) rfl (a_ (m_ 0 C_ rfl rfl rfl) rfl (a_ (h_ o_ rfl rfl rfl r_) rfl ?_)))))))))
  refine a_ (m_ 0 C_ rfl rfl rfl) rfl (a_ (ax_ eH_ rfl rfl) rfl (X_ 1 Z_ rfl rfl rfl rfl rfl rfl (d_ (b_ rfl (u_ ?_)))))
  refine bN_ ?_
  exact fB_ ⟨(), hspn⟩ (fun aa v h1 h2 => ck_ (us := [_, _]) 1 Tryz.results183 bU_ Z_ rfl rfl rfl aa v h1 h2) B_ (fun _ _ _ => trivial)
end Go.Proofs.YtaffcjgphlhppaaGreatDoor
