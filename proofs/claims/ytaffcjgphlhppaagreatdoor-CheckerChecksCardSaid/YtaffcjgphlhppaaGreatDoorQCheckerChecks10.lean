/-
  Part of the proof of the law CheckerChecks over this seat: the small logic, the data, the contracts of functions (no condition).
-/
import Derived.Test.YtaffcjgphlhppaaGreatDoorQCheckerChecks9
set_option linter.unusedVariables false
set_option linter.unusedSimpArgs false
set_option linter.unusedSectionVars false
namespace Go.Proofs.YtaffcjgphlhppaaGreatDoor
open Go Go.Sx Go.Proofs
attribute [local irreducible] Code.wp wpList wpAnyH
open Go.Vs
theorem ji_ : KeyT Tryz.prog 9 str := oq_ bT_
theorem gZ_ {P : Program} {N : Nf} {fr : Fr} {H : Hp} {Γ : List Fct} {op : Op} {ty : TypeId} {kn : Str → Bool} {q : List Str} {k : Str} (hkn : ∀ s, kn s = true ↔ s ∈ q) {i : Decidable (k ∈ q)} (h : Yld P N fr H Γ op ty (.bool (@decide (k ∈ q) i))) : Yld P N fr H Γ op ty (.bool (kn k)) := by
  have e : @decide (k ∈ q) i = kn k := by rw [Bool.eq_iff_iff, hkn]; exact decide_eq_true_iff
  rwa [e] at h
def hC_ : List Value := [.int .i64 0, .int .i64 0, .nilFunc, .int .i64 0, .int .i64 0, .func (.func 128) #[] #[], .int .i64 0, .int .i64 0, .func (.func 130) #[] #[], .int .i64 1, .int .i64 1, .func (.func 131) #[] #[], .int .i64 2, .int .i64 2, .func (.func 132) #[] #[], .int .i64 1, .int .i64 3, .func (.func 133) #[] #[], .int .i64 1, .int .i64 5, .func (.func 135) #[] #[], .int .i64 2, .int .i64 6, .func (.func 136) #[] #[], .int .i64 2, .int .i64 4, .func (.func 137) #[] #[], .int .i64 2, .int .i64 0, .func (.func 138) #[] #[], .int .i64 0, .int .i64 7, .func (.func 139) #[] #[], .int .i64 1, .int .i64 8, .func (.func 140) #[] #[], .int .i64 2, .int .i64 0, .func (.func 141) #[] #[], .int .i64 2, .int .i64 0, .func (.func 142) #[] #[], .int .i64 1, .int .i64 9, .func (.func 143) #[] #[], .int .i64 1, .int .i64 0, .func (.func 144) #[] #[], .int .i64 1, .int .i64 0, .func (.func 145) #[] #[]]
def cZ_ (pv : Value) (ab : Nat) (fv : Value) : List Value := pv :: .map (some ab) :: fv :: hC_
theorem md_ : gW_ Tryz.prog 145 [(0, 1), (1, 6), (7, 1), (8, 10)] [.pointer none, .int .i64 0, str [], str [], str [], .int .i64 0, .int .i64 0, .slice none 0 0, .int .i64 0, str [], str [], str [], str [], str [], str [], .int .i64 0, .int .i64 0, .int .i64 0] := ⟨_, Tryz.zeroValue145, s_, fun w => by simp [n_, aS_, Y_, Tryz.sizeOf74]⟩
set_option maxHeartbeats 1000000 in
theorem pB_ (kn : Str → Bool) (q : List Str) (hkn : ∀ s, kn s = true ↔ s ∈ q) (es : Array MapEntry) (ec : Nat) (hE : SetE str es q) (vb ab : Nat) (pv fv : Value) (x : Pc) (f : Fc) (lad : Option Addr) (lcap : Nat) : Tri Tryz.prog 128 #[.agg #[zp_ vb 0, .int .i64 (Fc.kind f), str (Fc.a f), str (Fc.b f), str (Fc.r f), .int .i64 (Fc.lo f), .int .i64 (Fc.hi f), .slice lad (List.length ([] : List Fc)) lcap, .int .i64 (Pc.kind x), str (Pc.a x), str (Pc.b x), str (Pc.c x), str (Pc.r x), str (Pc.s x), str (Pc.t x), .int .i64 (Pc.lo x), .int .i64 (Pc.hi x), .int .i64 (Pc.frm x)]] [] [cm_ vb (.cells (cZ_ pv ab fv).toArray 83 (0, 0)), cm_ ab (.map es ec), aW_ lad (List.flatMap Fc.cells ([] : List Fc))] (fun _ : Unit => .bool (kY_ kn x f zfc zfc)) (fun _ => []) (fun _ => []) := by
  refine V_ Tryz.func128 rfl rfl Tryz.ntmps128 rfl fun v0 => ?_
  refine g_ (c_ (aO_ rfl rfl fun b1 => ?_))
  refine a_ (e_ rfl) rfl (d_ (b_ rfl (g_ ?_)))
  refine aw_ (by kernel_rfl) ?_
  refine I_ 12 [0, 1, 2, 3, 4, 5, 6, 7, 8, 9] (by kernel_rfl) (fun _ a b => ⟨a, b⟩) (l_ rfl (h_ s_ rfl rfl rfl Tryz.sizeOf74) rfl (l_ rfl (m_ 0 Tryz.isAgg74 rfl rfl rfl) rfl (l_ rfl (bn_ rfl) rfl (l_ rfl (h_ bo_ rfl rfl rfl pX_) rfl (l_ rfl (dr_ Tryz.isAgg77 rfl (fun v _ h => by exact h.1) rfl) rfl (l_ rfl (h_ s_ rfl rfl rfl n_) rfl (l_ rfl (h_ k_ rfl rfl rfl o_) rfl (l_ rfl (m_ 0 x_ rfl rfl rfl) rfl ?_))))))))
  refine bf_ rfl (gZ_ hkn (fE_ (k := (Fc.a f)) ji_ ez_ Tryz.zeroValue4 rfl rfl hE (fun v _ h => (by exact h.2.1 : (cm_ ab (.map es ec)).p v).2))) rfl fun r1 hr1 => ?_
  refine l_ rfl (f_ rfl) rfl (H_ ?_)
  cases r1
  · skip
    refine I_ 0 [10, 11, 12, 13, 14, 15, 16, 17, 18, 19, 20, 21] (by kernel_rfl) (fun _ a b => ⟨a, b⟩) (t_ rfl rfl rfl rfl rfl (t_ rfl rfl rfl rfl rfl (t_ rfl rfl rfl rfl rfl (t_ rfl rfl rfl rfl rfl (t_ rfl rfl rfl rfl rfl (t_ rfl rfl rfl rfl rfl (t_ rfl rfl rfl rfl rfl (t_ rfl rfl rfl rfl rfl (t_ rfl rfl rfl rfl rfl ?_)))))))))
    refine t_ rfl rfl rfl rfl rfl (l_ rfl (p_ rfl rfl) rfl (l_ rfl (e_ rfl) rfl (H_ (R_ (by kernel_rfl) (b_ rfl (y_ ?_))))))
    exact U_ Tryz.results128 () (q_ rfl (by simp only [kY_, hr1, if_true, if_false, decide_true, decide_false, Bool.and_true, Bool.and_false, Bool.true_and, Bool.false_and, Bool.or_true, Bool.or_false, Bool.true_or, Bool.false_or, Bool.not_true, Bool.not_false, ne_eq, not_true_eq_false, not_false_eq_true, true_and, and_true, false_and, and_false, true_or, or_true, false_or, or_false, ite_true, ite_false, Bool.false_eq_true])) D_ (fun _ _ _ => trivial)
  · skip
    refine I_ 4 [10, 11, 12, 13, 14, 15, 16, 17] (by kernel_rfl) (fun _ a b => ⟨a, b⟩) (u_ rfl rfl rfl (h_ s_ rfl rfl rfl n_) rfl (u_ rfl rfl rfl (M_ 0 N_ n_ rfl rfl rfl) rfl (u_ rfl rfl rfl (h_ s_ rfl rfl rfl n_) rfl (u_ rfl rfl rfl (h_ k_ rfl rfl rfl o_) rfl (u_ rfl rfl rfl (m_ 0 x_ rfl rfl rfl) rfl (u_ rfl rfl rfl (h_ s_ rfl rfl rfl n_) rfl (u_ rfl rfl rfl (h_ k_ rfl rfl rfl o_) rfl (u_ rfl rfl rfl (m_ 0 x_ rfl rfl rfl) rfl (H_ ?_)))))))))
    refine P_ 18 rfl (by kernel_rfl) (i_ rfl rfl (S_ (bM_ (Fc.a f) (Fc.a f)) rfl D_ (fun _ _ _ => by exact trivial) rfl fun _ => ?_))
    refine d_ (z_ rfl (F_ (fun _ a b => ⟨a, b⟩) (I_ 0 [19, 20, 21] (by kernel_rfl) (fun _ a b => ⟨a, b⟩) ?_)))
    refine ai_ rfl rfl rfl (af_ (p := f) (q := (aJ_ (Fc.a f) (Fc.a f))) rfl rfl) rfl fun r2 hr2 => ?_
    refine l_ rfl (A_ rfl rfl) rfl (l_ rfl (e_ rfl) rfl (H_ (R_ (by kernel_rfl) (b_ rfl (y_ ?_)))))
    exact U_ Tryz.results128 () (q_ rfl (by rw [← hr2]; simp only [kY_, hr1, if_true, if_false, decide_true, decide_false, Bool.and_true, Bool.and_false, Bool.true_and, Bool.false_and, Bool.or_true, Bool.or_false, Bool.true_or, Bool.false_or, Bool.not_true, Bool.not_false, ne_eq, not_true_eq_false, not_false_eq_true, true_and, and_true, false_and, and_false, true_or, or_true, false_or, or_false, ite_true, ite_false, Bool.false_eq_true])) D_ (fun _ _ _ => trivial)
set_option maxHeartbeats 1000000 in
theorem pA_ (kn : Str → Bool) (q : List Str) (hkn : ∀ s, kn s = true ↔ s ∈ q) (es : Array MapEntry) (ec : Nat) (hE : SetE str es q) (vb ab : Nat) (pv fv : Value) (x : Pc) (f : Fc) (lad : Option Addr) (lcap : Nat) : Tri Tryz.prog 130 #[.agg #[zp_ vb 0, .int .i64 (Fc.kind f), str (Fc.a f), str (Fc.b f), str (Fc.r f), .int .i64 (Fc.lo f), .int .i64 (Fc.hi f), .slice lad (List.length ([] : List Fc)) lcap, .int .i64 (Pc.kind x), str (Pc.a x), str (Pc.b x), str (Pc.c x), str (Pc.r x), str (Pc.s x), str (Pc.t x), .int .i64 (Pc.lo x), .int .i64 (Pc.hi x), .int .i64 (Pc.frm x)]] [] [cm_ vb (.cells (cZ_ pv ab fv).toArray 83 (0, 0)), cm_ ab (.map es ec), aW_ lad (List.flatMap Fc.cells ([] : List Fc))] (fun _ : Unit => .bool (kW_ kn x f zfc zfc)) (fun _ => []) (fun _ => []) := by
  refine V_ Tryz.func130 rfl rfl Tryz.ntmps130 rfl fun v0 => ?_
  refine g_ (c_ (aO_ rfl rfl fun b1 => ?_))
  refine a_ (e_ rfl) rfl (d_ (b_ rfl (g_ ?_)))
  refine aw_ (by kernel_rfl) ?_
  refine I_ 9 [0, 1, 2, 3, 4, 5, 6, 7, 8, 9] (by kernel_rfl) (fun _ a b => ⟨a, b⟩) (l_ rfl (h_ s_ rfl rfl rfl Tryz.sizeOf74) rfl (l_ rfl (m_ 0 Tryz.isAgg74 rfl rfl rfl) rfl (l_ rfl (bn_ rfl) rfl (l_ rfl (h_ bo_ rfl rfl rfl pX_) rfl (l_ rfl (dr_ Tryz.isAgg77 rfl (fun v _ h => by exact h.1) rfl) rfl (l_ rfl (h_ s_ rfl rfl rfl n_) rfl (l_ rfl (h_ k_ rfl rfl rfl o_) rfl (l_ rfl (m_ 0 x_ rfl rfl rfl) rfl ?_))))))))
  refine bf_ rfl (gZ_ hkn (fE_ (k := (Fc.a f)) ji_ ez_ Tryz.zeroValue4 rfl rfl hE (fun v _ h => (by exact h.2.1 : (cm_ ab (.map es ec)).p v).2))) rfl fun r1 hr1 => ?_
  refine l_ rfl (f_ rfl) rfl (H_ ?_)
  cases r1
  · skip
    refine I_ 0 [10, 11, 12, 13, 14, 15, 16, 17, 18] (by kernel_rfl) (fun _ a b => ⟨a, b⟩) (t_ rfl rfl rfl rfl rfl (t_ rfl rfl rfl rfl rfl (t_ rfl rfl rfl rfl rfl (t_ rfl rfl rfl rfl rfl (t_ rfl rfl rfl rfl rfl (t_ rfl rfl rfl rfl rfl (t_ rfl rfl rfl rfl rfl (l_ rfl (p_ rfl rfl) rfl (l_ rfl (e_ rfl) rfl ?_)))))))))
    refine H_ (R_ (by kernel_rfl) (b_ rfl (y_ ?_)))
    exact U_ Tryz.results130 () (q_ rfl (by simp only [kW_, hr1, if_true, if_false, decide_true, decide_false, Bool.and_true, Bool.and_false, Bool.true_and, Bool.false_and, Bool.or_true, Bool.or_false, Bool.true_or, Bool.false_or, Bool.not_true, Bool.not_false, ne_eq, not_true_eq_false, not_false_eq_true, true_and, and_true, false_and, and_false, true_or, or_true, false_or, or_false, ite_true, ite_false, Bool.false_eq_true])) D_ (fun _ _ _ => trivial)
  · skip
    refine I_ 4 [10, 11, 12, 13, 14] (by kernel_rfl) (fun _ a b => ⟨a, b⟩) (u_ rfl rfl rfl (h_ s_ rfl rfl rfl n_) rfl (u_ rfl rfl rfl (M_ 0 N_ n_ rfl rfl rfl) rfl (u_ rfl rfl rfl (h_ s_ rfl rfl rfl n_) rfl (u_ rfl rfl rfl (h_ k_ rfl rfl rfl o_) rfl (u_ rfl rfl rfl (m_ 0 x_ rfl rfl rfl) rfl (H_ (P_ 15 rfl (by kernel_rfl) (i_ rfl rfl (S_ (bM_ (Fc.a f) [42]) rfl D_ (fun _ _ _ => by exact trivial) rfl fun _ => ?_)))))))))
    refine d_ (z_ rfl (F_ (fun _ a b => ⟨a, b⟩) (I_ 0 [16, 17, 18] (by kernel_rfl) (fun _ a b => ⟨a, b⟩) ?_)))
    refine ai_ rfl rfl rfl (af_ (p := f) (q := (aJ_ (Fc.a f) [42])) rfl rfl) rfl fun r2 hr2 => ?_
    refine l_ rfl (A_ rfl rfl) rfl (l_ rfl (e_ rfl) rfl (H_ (R_ (by kernel_rfl) (b_ rfl (y_ ?_)))))
    exact U_ Tryz.results130 () (q_ rfl (by rw [← hr2]; simp only [kW_, hr1, if_true, if_false, decide_true, decide_false, Bool.and_true, Bool.and_false, Bool.true_and, Bool.false_and, Bool.or_true, Bool.or_false, Bool.true_or, Bool.false_or, Bool.not_true, Bool.not_false, ne_eq, not_true_eq_false, not_false_eq_true, true_and, and_true, false_and, and_false, true_or, or_true, false_or, or_false, ite_true, ite_false, Bool.false_eq_true])) D_ (fun _ _ _ => trivial)
set_option maxHeartbeats 1000000 in
theorem pz_ (kn : Str → Bool) (q : List Str) (hkn : ∀ s, kn s = true ↔ s ∈ q) (es : Array MapEntry) (ec : Nat) (hE : SetE str es q) (vb ab : Nat) (pv fv : Value) (x : Pc) (f ga : Fc) (lad : Option Addr) (lcap : Nat) : Tri Tryz.prog 131 #[.agg #[zp_ vb 0, .int .i64 (Fc.kind f), str (Fc.a f), str (Fc.b f), str (Fc.r f), .int .i64 (Fc.lo f), .int .i64 (Fc.hi f), .slice lad (List.length [ga]) lcap, .int .i64 (Pc.kind x), str (Pc.a x), str (Pc.b x), str (Pc.c x), str (Pc.r x), str (Pc.s x), str (Pc.t x), .int .i64 (Pc.lo x), .int .i64 (Pc.hi x), .int .i64 (Pc.frm x)]] [] [cm_ vb (.cells (cZ_ pv ab fv).toArray 83 (0, 0)), cm_ ab (.map es ec), aW_ lad (List.flatMap Fc.cells [ga])] (fun _ : Unit => .bool (kV_ kn x f ga zfc)) (fun _ => []) (fun _ => []) := by
  refine V_ Tryz.func131 rfl rfl Tryz.ntmps131 rfl fun v0 => ?_
  refine g_ (c_ (aO_ rfl rfl fun b1 => ?_))
  refine a_ (e_ rfl) rfl (d_ (b_ rfl (g_ ?_)))
  refine aw_ (by kernel_rfl) ?_
  refine I_ 15 [0, 1, 2, 3, 4, 5, 6, 7, 8, 9] (by kernel_rfl) (fun _ a b => ⟨a, b⟩) (l_ rfl (h_ s_ rfl rfl rfl aS_) rfl (l_ rfl (m_ 0 bp_ rfl rfl rfl) rfl (l_ rfl (ag_ ad_ n_ rfl rfl (fun v _ h => aH_ (n := 6) Fc.cells_len (by decide) (by exact h.2.2.1) (show [ga][0]? = some _ from rfl)) (by omega) (by first | omega | (simp; done))) rfl (l_ rfl (aM_ (ad := lad) (us := Fc.cells ga) N_ n_ rfl (fun v _ h => by exact h.2.2.1) (Fc.cells_len _) (ak_ Fc.cells_len (show [ga][0]? = some _ from rfl))) rfl (l_ rfl (h_ s_ rfl rfl rfl n_) rfl (l_ rfl (h_ k_ rfl rfl rfl o_) rfl (l_ rfl (m_ 0 x_ rfl rfl rfl) rfl (l_ rfl (h_ s_ rfl rfl rfl Y_) rfl (l_ rfl (h_ r_ rfl rfl rfl o_) rfl ?_)))))))))
  refine l_ rfl (m_ 0 x_ rfl rfl rfl) rfl (H_ (P_ 10 rfl (by kernel_rfl) (S_ (bM_ (Fc.a f) (Pc.a x)) rfl D_ (fun _ _ _ => by exact trivial) rfl fun _ => ?_)))
  refine d_ (z_ rfl (F_ (fun _ a b => ⟨a, b⟩) (I_ 12 [11, 12] (by kernel_rfl) (fun _ a b => ⟨a, b⟩) ?_)))
  refine bf_ rfl (af_ (p := ga) (q := (aJ_ (Fc.a f) (Pc.a x))) rfl rfl) rfl fun r1 hr1 => ?_
  refine l_ rfl (f_ rfl) rfl (H_ ?_)
  cases r1
  · skip
    replace hr1 := of_decide_eq_false hr1
    refine I_ 0 [13, 14, 15, 16, 17, 18, 19, 20, 21, 22, 23, 24] (by kernel_rfl) (fun _ a b => ⟨a, b⟩) (t_ rfl rfl rfl rfl rfl (t_ rfl rfl rfl rfl rfl (t_ rfl rfl rfl rfl rfl (t_ rfl rfl rfl rfl rfl (t_ rfl rfl rfl rfl rfl (t_ rfl rfl rfl rfl rfl (t_ rfl rfl rfl rfl rfl (t_ rfl rfl rfl rfl rfl (t_ rfl rfl rfl rfl rfl ?_)))))))))
    refine t_ rfl rfl rfl rfl rfl (l_ rfl (p_ rfl rfl) rfl (l_ rfl (e_ rfl) rfl (H_ (R_ (by kernel_rfl) (b_ rfl (y_ ?_))))))
    exact U_ Tryz.results131 () (q_ rfl (by have p1 := eq_false hr1; simp only [kV_, p1, if_true, if_false, decide_true, decide_false, Bool.and_true, Bool.and_false, Bool.true_and, Bool.false_and, Bool.or_true, Bool.or_false, Bool.true_or, Bool.false_or, Bool.not_true, Bool.not_false, ne_eq, not_true_eq_false, not_false_eq_true, true_and, and_true, false_and, and_false, true_or, or_true, false_or, or_false, ite_true, ite_false, Bool.false_eq_true])) D_ (fun _ _ _ => trivial)
  · skip
    replace hr1 := of_decide_eq_true hr1
    refine I_ 4 [13, 14, 15, 16, 17, 18, 19, 20] (by kernel_rfl) (fun _ a b => ⟨a, b⟩) (u_ rfl rfl rfl (h_ s_ rfl rfl rfl n_) rfl (u_ rfl rfl rfl (M_ 0 N_ n_ rfl rfl rfl) rfl (u_ rfl rfl rfl (h_ s_ rfl rfl rfl n_) rfl (u_ rfl rfl rfl (h_ k_ rfl rfl rfl o_) rfl (u_ rfl rfl rfl (m_ 0 x_ rfl rfl rfl) rfl (u_ rfl rfl rfl (h_ s_ rfl rfl rfl Y_) rfl (u_ rfl rfl rfl (h_ r_ rfl rfl rfl o_) rfl (u_ rfl rfl rfl (m_ 0 x_ rfl rfl rfl) rfl (H_ ?_)))))))))
    refine P_ 21 rfl (by kernel_rfl) (i_ rfl rfl (S_ (bM_ (Fc.a f) (Pc.c x)) rfl D_ (fun _ _ _ => by exact trivial) rfl fun _ => ?_))
    refine d_ (z_ rfl (F_ (fun _ a b => ⟨a, b⟩) (I_ 0 [22, 23, 24] (by kernel_rfl) (fun _ a b => ⟨a, b⟩) ?_)))
    refine ai_ rfl rfl rfl (af_ (p := f) (q := (aJ_ (Fc.a f) (Pc.c x))) rfl rfl) rfl fun r2 hr2 => ?_
    refine l_ rfl (A_ rfl rfl) rfl (l_ rfl (e_ rfl) rfl (H_ (R_ (by kernel_rfl) (b_ rfl (y_ ?_)))))
    exact U_ Tryz.results131 () (q_ rfl (by have p1 := eq_true hr1; rw [← hr2]; simp only [kV_, p1, if_true, if_false, decide_true, decide_false, Bool.and_true, Bool.and_false, Bool.true_and, Bool.false_and, Bool.or_true, Bool.or_false, Bool.true_or, Bool.false_or, Bool.not_true, Bool.not_false, ne_eq, not_true_eq_false, not_false_eq_true, true_and, and_true, false_and, and_false, true_or, or_true, false_or, or_false, ite_true, ite_false, Bool.false_eq_true])) D_ (fun _ _ _ => trivial)
set_option maxHeartbeats 1000000 in
theorem py_ (kn : Str → Bool) (q : List Str) (hkn : ∀ s, kn s = true ↔ s ∈ q) (es : Array MapEntry) (ec : Nat) (hE : SetE str es q) (vb ab : Nat) (pv fv : Value) (x : Pc) (f ga gb : Fc) (lad : Option Addr) (lcap : Nat) : Tri Tryz.prog 132 #[.agg #[zp_ vb 0, .int .i64 (Fc.kind f), str (Fc.a f), str (Fc.b f), str (Fc.r f), .int .i64 (Fc.lo f), .int .i64 (Fc.hi f), .slice lad (List.length [ga, gb]) lcap, .int .i64 (Pc.kind x), str (Pc.a x), str (Pc.b x), str (Pc.c x), str (Pc.r x), str (Pc.s x), str (Pc.t x), .int .i64 (Pc.lo x), .int .i64 (Pc.hi x), .int .i64 (Pc.frm x)]] [] [cm_ vb (.cells (cZ_ pv ab fv).toArray 83 (0, 0)), cm_ ab (.map es ec), aW_ lad (List.flatMap Fc.cells [ga, gb])] (fun _ : Unit => .bool (iu_ kn x f ga gb)) (fun _ => []) (fun _ => []) := by
 refine V_ Tryz.func132 rfl rfl Tryz.ntmps132 rfl fun v0 => ?_
 refine g_ (c_ (aO_ rfl rfl fun b1 => ?_))
 refine a_ (e_ rfl) rfl (d_ (b_ rfl (g_ ?_)))
 refine aw_ (by kernel_rfl) ?_
 refine I_ 29 [0, 1, 2, 3, 4, 5, 6, 7, 8, 9] (by kernel_rfl) (fun _ a b => ⟨a, b⟩) (l_ rfl (h_ s_ rfl rfl rfl aS_) rfl (l_ rfl (m_ 0 bp_ rfl rfl rfl) rfl (l_ rfl (ag_ ad_ n_ rfl rfl (fun v _ h => aH_ (n := 6) Fc.cells_len (by decide) (by exact h.2.2.1) (show [ga, gb][0]? = some _ from rfl)) (by omega) (by first | omega | (simp; done))) rfl (l_ rfl (aM_ (ad := lad) (us := Fc.cells ga) N_ n_ rfl (fun v _ h => by exact h.2.2.1) (Fc.cells_len _) (ak_ Fc.cells_len (show [ga, gb][0]? = some _ from rfl))) rfl (l_ rfl (h_ s_ rfl rfl rfl n_) rfl (l_ rfl (h_ k_ rfl rfl rfl o_) rfl (l_ rfl (m_ 0 x_ rfl rfl rfl) rfl (l_ rfl (h_ s_ rfl rfl rfl Y_) rfl (l_ rfl (h_ r_ rfl rfl rfl o_) rfl ?_)))))))))
 refine l_ rfl (m_ 0 x_ rfl rfl rfl) rfl (H_ (P_ 10 rfl (by kernel_rfl) (S_ (bM_ (Fc.a f) (Pc.a x)) rfl D_ (fun _ _ _ => by exact trivial) rfl fun _ => ?_)))
 refine d_ (z_ rfl (F_ (fun _ a b => ⟨a, b⟩) (I_ 26 [11, 12] (by kernel_rfl) (fun _ a b => ⟨a, b⟩) ?_)))
 refine bf_ rfl (af_ (p := ga) (q := (aJ_ (Fc.a f) (Pc.a x))) rfl rfl) rfl fun r1 hr1 => ?_
 refine l_ rfl (f_ rfl) rfl (H_ ?_)
 cases r1
 ·
  replace hr1 := of_decide_eq_false hr1
  refine I_ 0 [13, 14, 15, 16, 17, 18, 19, 20, 21, 22, 23, 24, 25, 26, 27, 28, 29, 30, 31, 32, 33, 34, 35, 36, 37, 38] (by kernel_rfl) (fun _ a b => ⟨a, b⟩) (t_ rfl rfl rfl rfl rfl (t_ rfl rfl rfl rfl rfl (t_ rfl rfl rfl rfl rfl (t_ rfl rfl rfl rfl rfl (t_ rfl rfl rfl rfl rfl (t_ rfl rfl rfl rfl rfl (t_ rfl rfl rfl rfl rfl (t_ rfl rfl rfl rfl rfl (t_ rfl rfl rfl rfl rfl ?_)))))))))
  refine t_ rfl rfl rfl rfl rfl (t_ rfl rfl rfl rfl rfl (t_ rfl rfl rfl rfl rfl (l_ rfl (p_ rfl rfl) rfl (l_ rfl (f_ rfl) rfl (t_ rfl rfl rfl rfl rfl (t_ rfl rfl rfl rfl rfl (t_ rfl rfl rfl rfl rfl (t_ rfl rfl rfl rfl rfl (t_ rfl rfl rfl rfl rfl ?_)))))))))
  refine t_ rfl rfl rfl rfl rfl (t_ rfl rfl rfl rfl rfl (t_ rfl rfl rfl rfl rfl (t_ rfl rfl rfl rfl rfl (t_ rfl rfl rfl rfl rfl (l_ rfl (p_ rfl rfl) rfl (l_ rfl (e_ rfl) rfl (H_ (R_ (by kernel_rfl) (b_ rfl ?_)))))))))
  refine y_ ?_
  exact U_ Tryz.results132 () (q_ rfl (by have p1 := eq_false hr1; simp only [iu_, p1, if_true, if_false, decide_true, decide_false, Bool.and_true, Bool.and_false, Bool.true_and, Bool.false_and, Bool.or_true, Bool.or_false, Bool.true_or, Bool.false_or, Bool.not_true, Bool.not_false, ne_eq, not_true_eq_false, not_false_eq_true, true_and, and_true, false_and, and_false, true_or, or_true, false_or, or_false, ite_true, ite_false, Bool.false_eq_true])) D_ (fun _ _ _ => trivial)
 ·
  replace hr1 := of_decide_eq_true hr1
  refine I_ 16 [13, 14, 15, 16, 17, 18, 19, 20, 21, 22] (by kernel_rfl) (fun _ a b => ⟨a, b⟩) (u_ rfl rfl rfl (h_ s_ rfl rfl rfl aS_) rfl (u_ rfl rfl rfl (m_ 0 bp_ rfl rfl rfl) rfl (u_ rfl rfl rfl (ag_ ad_ n_ rfl rfl (fun v _ h => aH_ (n := 6) Fc.cells_len (by decide) (by exact h.2.2.1) (show [ga, gb][1]? = some _ from rfl)) (by omega) (by first | omega | (simp; done))) rfl (u_ rfl rfl rfl (aM_ (ad := lad) (us := Fc.cells gb) N_ n_ rfl (fun v _ h => by exact h.2.2.1) (Fc.cells_len _) (ak_ Fc.cells_len (show [ga, gb][1]? = some _ from rfl))) rfl (u_ rfl rfl rfl (h_ s_ rfl rfl rfl n_) rfl (u_ rfl rfl rfl (h_ k_ rfl rfl rfl o_) rfl (u_ rfl rfl rfl (m_ 0 x_ rfl rfl rfl) rfl (u_ rfl rfl rfl (h_ s_ rfl rfl rfl Y_) rfl (u_ rfl rfl rfl (h_ r_ rfl rfl rfl o_) rfl ?_)))))))))
  refine u_ rfl rfl rfl (m_ 0 x_ rfl rfl rfl) rfl (H_ (P_ 23 rfl (by kernel_rfl) (i_ rfl rfl (S_ (bM_ (Fc.a f) (Pc.b x)) rfl D_ (fun _ _ _ => by exact trivial) rfl fun _ => ?_))))
  refine d_ (z_ rfl (F_ (fun _ a b => ⟨a, b⟩) (I_ 12 [24, 25, 26] (by kernel_rfl) (fun _ a b => ⟨a, b⟩) ?_)))
  refine ai_ rfl rfl rfl (af_ (p := gb) (q := (aJ_ (Fc.a f) (Pc.b x))) rfl rfl) rfl fun r2 hr2 => ?_
  refine l_ rfl (A_ rfl rfl) rfl (l_ rfl (f_ rfl) rfl (H_ ?_))
  cases r2
  ·
   replace hr2 := of_decide_eq_false hr2
   refine I_ 0 [27, 28, 29, 30, 31, 32, 33, 34, 35, 36, 37, 38] (by kernel_rfl) (fun _ a b => ⟨a, b⟩) (t_ rfl rfl rfl rfl rfl (t_ rfl rfl rfl rfl rfl (t_ rfl rfl rfl rfl rfl (t_ rfl rfl rfl rfl rfl (t_ rfl rfl rfl rfl rfl (t_ rfl rfl rfl rfl rfl (t_ rfl rfl rfl rfl rfl (t_ rfl rfl rfl rfl rfl (t_ rfl rfl rfl rfl rfl ?_)))))))))
   refine t_ rfl rfl rfl rfl rfl (l_ rfl (p_ rfl rfl) rfl (l_ rfl (e_ rfl) rfl (H_ (R_ (by kernel_rfl) (b_ rfl (y_ ?_))))))
   exact U_ Tryz.results132 () (q_ rfl (by have p1 := eq_true hr1; have p2 := eq_false hr2; simp only [iu_, p1, p2, if_true, if_false, decide_true, decide_false, Bool.and_true, Bool.and_false, Bool.true_and, Bool.false_and, Bool.or_true, Bool.or_false, Bool.true_or, Bool.false_or, Bool.not_true, Bool.not_false, ne_eq, not_true_eq_false, not_false_eq_true, true_and, and_true, false_and, and_false, true_or, or_true, false_or, or_false, ite_true, ite_false, Bool.false_eq_true])) D_ (fun _ _ _ => trivial)
  ·
   replace hr2 := of_decide_eq_true hr2
   refine I_ 4 [27, 28, 29, 30, 31, 32, 33, 34] (by kernel_rfl) (fun _ a b => ⟨a, b⟩) (u_ rfl rfl rfl (h_ s_ rfl rfl rfl n_) rfl (u_ rfl rfl rfl (M_ 0 N_ n_ rfl rfl rfl) rfl (u_ rfl rfl rfl (h_ s_ rfl rfl rfl n_) rfl (u_ rfl rfl rfl (h_ k_ rfl rfl rfl o_) rfl (u_ rfl rfl rfl (m_ 0 x_ rfl rfl rfl) rfl (u_ rfl rfl rfl (h_ s_ rfl rfl rfl Y_) rfl (u_ rfl rfl rfl (h_ r_ rfl rfl rfl o_) rfl (u_ rfl rfl rfl (m_ 0 x_ rfl rfl rfl) rfl (H_ ?_)))))))))
   refine P_ 35 rfl (by kernel_rfl) (i_ rfl rfl (S_ (bM_ (Fc.a f) (Pc.c x)) rfl D_ (fun _ _ _ => by exact trivial) rfl fun _ => ?_))
   refine d_ (z_ rfl (F_ (fun _ a b => ⟨a, b⟩) (I_ 0 [36, 37, 38] (by kernel_rfl) (fun _ a b => ⟨a, b⟩) ?_)))
   refine ai_ rfl rfl rfl (af_ (p := f) (q := (aJ_ (Fc.a f) (Pc.c x))) rfl rfl) rfl fun r3 hr3 => ?_
   refine l_ rfl (A_ rfl rfl) rfl (l_ rfl (e_ rfl) rfl (H_ (R_ (by kernel_rfl) (b_ rfl (y_ ?_)))))
   exact U_ Tryz.results132 () (q_ rfl (by have p1 := eq_true hr1; have p2 := eq_true hr2; rw [← hr3]; simp only [iu_, p1, p2, if_true, if_false, decide_true, decide_false, Bool.and_true, Bool.and_false, Bool.true_and, Bool.false_and, Bool.or_true, Bool.or_false, Bool.true_or, Bool.false_or, Bool.not_true, Bool.not_false, ne_eq, not_true_eq_false, not_false_eq_true, true_and, and_true, false_and, and_false, true_or, or_true, false_or, or_false, ite_true, ite_false, Bool.false_eq_true])) D_ (fun _ _ _ => trivial)
set_option maxHeartbeats 1000000 in
theorem px_ (kn : Str → Bool) (q : List Str) (hkn : ∀ s, kn s = true ↔ s ∈ q) (es : Array MapEntry) (ec : Nat) (hE : SetE str es q) (vb ab : Nat) (pv fv : Value) (x : Pc) (f ga : Fc) (lad : Option Addr) (lcap : Nat) : Tri Tryz.prog 133 #[.agg #[zp_ vb 0, .int .i64 (Fc.kind f), str (Fc.a f), str (Fc.b f), str (Fc.r f), .int .i64 (Fc.lo f), .int .i64 (Fc.hi f), .slice lad (List.length [ga]) lcap, .int .i64 (Pc.kind x), str (Pc.a x), str (Pc.b x), str (Pc.c x), str (Pc.r x), str (Pc.s x), str (Pc.t x), .int .i64 (Pc.lo x), .int .i64 (Pc.hi x), .int .i64 (Pc.frm x)]] [] [cm_ vb (.cells (cZ_ pv ab fv).toArray 83 (0, 0)), cm_ ab (.map es ec), aW_ lad (List.flatMap Fc.cells [ga])] (fun _ : Unit => .bool (kU_ kn x f ga zfc)) (fun _ => []) (fun _ => []) := by
  refine V_ Tryz.func133 rfl rfl Tryz.ntmps133 rfl fun v0 => ?_
  refine g_ (c_ (aO_ rfl rfl fun b1 => ?_))
  refine a_ (e_ rfl) rfl (d_ (b_ rfl (g_ ?_)))
  refine aw_ (by kernel_rfl) ?_
  refine I_ 18 [0, 1, 2, 3, 4, 5, 6, 7, 8, 9] (by kernel_rfl) (fun _ a b => ⟨a, b⟩) (l_ rfl (h_ s_ rfl rfl rfl aS_) rfl (l_ rfl (m_ 0 bp_ rfl rfl rfl) rfl (l_ rfl (ag_ ad_ n_ rfl rfl (fun v _ h => aH_ (n := 6) Fc.cells_len (by decide) (by exact h.2.2.1) (show [ga][0]? = some _ from rfl)) (by omega) (by first | omega | (simp; done))) rfl (l_ rfl (aM_ (ad := lad) (us := Fc.cells ga) N_ n_ rfl (fun v _ h => by exact h.2.2.1) (Fc.cells_len _) (ak_ Fc.cells_len (show [ga][0]? = some _ from rfl))) rfl (l_ rfl (h_ s_ rfl rfl rfl n_) rfl (l_ rfl (h_ k_ rfl rfl rfl o_) rfl (l_ rfl (m_ 0 x_ rfl rfl rfl) rfl (l_ rfl (h_ s_ rfl rfl rfl Y_) rfl (l_ rfl (h_ r_ rfl rfl rfl o_) rfl ?_)))))))))
  refine l_ rfl (m_ 0 x_ rfl rfl rfl) rfl (H_ (P_ 10 rfl (by kernel_rfl) (S_ (bM_ (Fc.a f) (Pc.a x)) rfl D_ (fun _ _ _ => by exact trivial) rfl fun _ => ?_)))
  refine d_ (z_ rfl (F_ (fun _ a b => ⟨a, b⟩) (I_ 15 [11, 12] (by kernel_rfl) (fun _ a b => ⟨a, b⟩) ?_)))
  refine bf_ rfl (af_ (p := ga) (q := (aJ_ (Fc.a f) (Pc.a x))) rfl rfl) rfl fun r1 hr1 => ?_
  refine l_ rfl (f_ rfl) rfl (H_ ?_)
  cases r1
  · skip
    replace hr1 := of_decide_eq_false hr1
    refine I_ 0 [13, 14, 15, 16, 17, 18, 19, 20, 21, 22, 23, 24, 25, 26, 27] (by kernel_rfl) (fun _ a b => ⟨a, b⟩) (t_ rfl rfl rfl rfl rfl (t_ rfl rfl rfl rfl rfl (t_ rfl rfl rfl rfl rfl (t_ rfl rfl rfl rfl rfl (t_ rfl rfl rfl rfl rfl (t_ rfl rfl rfl rfl rfl (t_ rfl rfl rfl rfl rfl (t_ rfl rfl rfl rfl rfl (t_ rfl rfl rfl rfl rfl ?_)))))))))
    refine t_ rfl rfl rfl rfl rfl (t_ rfl rfl rfl rfl rfl (t_ rfl rfl rfl rfl rfl (t_ rfl rfl rfl rfl rfl (l_ rfl (p_ rfl rfl) rfl (l_ rfl (e_ rfl) rfl (H_ (R_ (by kernel_rfl) (b_ rfl (y_ ?_)))))))))
    exact U_ Tryz.results133 () (q_ rfl (by have p1 := eq_false hr1; simp only [kU_, p1, if_true, if_false, decide_true, decide_false, Bool.and_true, Bool.and_false, Bool.true_and, Bool.false_and, Bool.or_true, Bool.or_false, Bool.true_or, Bool.false_or, Bool.not_true, Bool.not_false, ne_eq, not_true_eq_false, not_false_eq_true, true_and, and_true, false_and, and_false, true_or, or_true, false_or, or_false, ite_true, ite_false, Bool.false_eq_true])) D_ (fun _ _ _ => trivial)
  · skip
    replace hr1 := of_decide_eq_true hr1
    refine I_ 4 [13, 14, 15, 16, 17, 18, 19, 20, 21, 22, 23] (by kernel_rfl) (fun _ a b => ⟨a, b⟩) (u_ rfl rfl rfl (h_ s_ rfl rfl rfl n_) rfl (u_ rfl rfl rfl (M_ 0 N_ n_ rfl rfl rfl) rfl (u_ rfl rfl rfl (h_ s_ rfl rfl rfl n_) rfl (u_ rfl rfl rfl (h_ k_ rfl rfl rfl o_) rfl (u_ rfl rfl rfl (m_ 0 x_ rfl rfl rfl) rfl (u_ rfl rfl rfl (h_ s_ rfl rfl rfl Y_) rfl (u_ rfl rfl rfl (h_ r_ rfl rfl rfl o_) rfl (u_ rfl rfl rfl (m_ 0 x_ rfl rfl rfl) rfl (u_ rfl rfl rfl (h_ s_ rfl rfl rfl Y_) rfl ?_)))))))))
    refine u_ rfl rfl rfl (h_ r_ rfl rfl rfl o_) rfl (u_ rfl rfl rfl (m_ 0 x_ rfl rfl rfl) rfl (H_ (P_ 24 rfl (by kernel_rfl) (i_ rfl rfl (S_ (dY_ (Fc.a f) (Pc.r x) (Pc.c x)) rfl D_ (fun _ _ _ => by exact trivial) rfl fun _ => ?_)))))
    refine d_ (z_ rfl (F_ (fun _ a b => ⟨a, b⟩) (I_ 0 [25, 26, 27] (by kernel_rfl) (fun _ a b => ⟨a, b⟩) ?_)))
    refine ai_ rfl rfl rfl (af_ (p := f) (q := (bw_ (Fc.a f) (Pc.r x) (Pc.c x))) rfl rfl) rfl fun r2 hr2 => ?_
    refine l_ rfl (A_ rfl rfl) rfl (l_ rfl (e_ rfl) rfl (H_ (R_ (by kernel_rfl) (b_ rfl (y_ ?_)))))
    exact U_ Tryz.results133 () (q_ rfl (by have p1 := eq_true hr1; rw [← hr2]; simp only [kU_, p1, if_true, if_false, decide_true, decide_false, Bool.and_true, Bool.and_false, Bool.true_and, Bool.false_and, Bool.or_true, Bool.or_false, Bool.true_or, Bool.false_or, Bool.not_true, Bool.not_false, ne_eq, not_true_eq_false, not_false_eq_true, true_and, and_true, false_and, and_false, true_or, or_true, false_or, or_false, ite_true, ite_false, Bool.false_eq_true])) D_ (fun _ _ _ => trivial)
set_option maxHeartbeats 1000000 in
theorem pw_ (kn : Str → Bool) (q : List Str) (hkn : ∀ s, kn s = true ↔ s ∈ q) (es : Array MapEntry) (ec : Nat) (hE : SetE str es q) (vb ab : Nat) (pv fv : Value) (x : Pc) (f ga : Fc) (lad : Option Addr) (lcap : Nat) : Tri Tryz.prog 135 #[.agg #[zp_ vb 0, .int .i64 (Fc.kind f), str (Fc.a f), str (Fc.b f), str (Fc.r f), .int .i64 (Fc.lo f), .int .i64 (Fc.hi f), .slice lad (List.length [ga]) lcap, .int .i64 (Pc.kind x), str (Pc.a x), str (Pc.b x), str (Pc.c x), str (Pc.r x), str (Pc.s x), str (Pc.t x), .int .i64 (Pc.lo x), .int .i64 (Pc.hi x), .int .i64 (Pc.frm x)]] [] [cm_ vb (.cells (cZ_ pv ab fv).toArray 83 (0, 0)), cm_ ab (.map es ec), aW_ lad (List.flatMap Fc.cells [ga])] (fun _ : Unit => .bool (kT_ kn x f ga zfc)) (fun _ => []) (fun _ => []) := by
  refine V_ Tryz.func135 rfl rfl Tryz.ntmps135 rfl fun v0 => ?_
  refine g_ (c_ (aO_ rfl rfl fun b1 => ?_))
  refine a_ (e_ rfl) rfl (d_ (b_ rfl (g_ ?_)))
  refine aw_ (by kernel_rfl) ?_
  refine I_ 18 [0, 1, 2, 3, 4, 5, 6, 7, 8, 9, 10, 11, 12] (by kernel_rfl) (fun _ a b => ⟨a, b⟩) (l_ rfl (h_ s_ rfl rfl rfl aS_) rfl (l_ rfl (m_ 0 bp_ rfl rfl rfl) rfl (l_ rfl (ag_ ad_ n_ rfl rfl (fun v _ h => aH_ (n := 6) Fc.cells_len (by decide) (by exact h.2.2.1) (show [ga][0]? = some _ from rfl)) (by omega) (by first | omega | (simp; done))) rfl (l_ rfl (aM_ (ad := lad) (us := Fc.cells ga) N_ n_ rfl (fun v _ h => by exact h.2.2.1) (Fc.cells_len _) (ak_ Fc.cells_len (show [ga][0]? = some _ from rfl))) rfl (l_ rfl (h_ s_ rfl rfl rfl n_) rfl (l_ rfl (h_ k_ rfl rfl rfl o_) rfl (l_ rfl (m_ 0 x_ rfl rfl rfl) rfl (l_ rfl (h_ s_ rfl rfl rfl Y_) rfl (l_ rfl (h_ r_ rfl rfl rfl o_) rfl ?_)))))))))
  refine l_ rfl (m_ 0 x_ rfl rfl rfl) rfl (l_ rfl (h_ s_ rfl rfl rfl n_) rfl (l_ rfl (h_ k_ rfl rfl rfl o_) rfl (l_ rfl (m_ 0 x_ rfl rfl rfl) rfl (H_ (P_ 13 rfl (by kernel_rfl) (S_ (dY_ (Fc.a f) (Pc.r x) (Fc.b f)) rfl D_ (fun _ _ _ => by exact trivial) rfl fun _ => ?_))))))
  refine d_ (z_ rfl (F_ (fun _ a b => ⟨a, b⟩) (I_ 15 [14, 15] (by kernel_rfl) (fun _ a b => ⟨a, b⟩) ?_)))
  refine bf_ rfl (af_ (p := ga) (q := (bw_ (Fc.a f) (Pc.r x) (Fc.b f))) rfl rfl) rfl fun r1 hr1 => ?_
  refine l_ rfl (f_ rfl) rfl (H_ ?_)
  cases r1
  · skip
    replace hr1 := of_decide_eq_false hr1
    refine I_ 0 [16, 17, 18, 19, 20, 21, 22, 23, 24, 25, 26, 27, 28, 29, 30] (by kernel_rfl) (fun _ a b => ⟨a, b⟩) (t_ rfl rfl rfl rfl rfl (t_ rfl rfl rfl rfl rfl (t_ rfl rfl rfl rfl rfl (t_ rfl rfl rfl rfl rfl (t_ rfl rfl rfl rfl rfl (t_ rfl rfl rfl rfl rfl (t_ rfl rfl rfl rfl rfl (t_ rfl rfl rfl rfl rfl (t_ rfl rfl rfl rfl rfl ?_)))))))))
    refine t_ rfl rfl rfl rfl rfl (t_ rfl rfl rfl rfl rfl (t_ rfl rfl rfl rfl rfl (t_ rfl rfl rfl rfl rfl (l_ rfl (p_ rfl rfl) rfl (l_ rfl (e_ rfl) rfl (H_ (R_ (by kernel_rfl) (b_ rfl (y_ ?_)))))))))
    exact U_ Tryz.results135 () (q_ rfl (by have p1 := eq_false hr1; simp only [kT_, p1, if_true, if_false, decide_true, decide_false, Bool.and_true, Bool.and_false, Bool.true_and, Bool.false_and, Bool.or_true, Bool.or_false, Bool.true_or, Bool.false_or, Bool.not_true, Bool.not_false, ne_eq, not_true_eq_false, not_false_eq_true, true_and, and_true, false_and, and_false, true_or, or_true, false_or, or_false, ite_true, ite_false, Bool.false_eq_true])) D_ (fun _ _ _ => trivial)
  · skip
    replace hr1 := of_decide_eq_true hr1
    refine I_ 4 [16, 17, 18, 19, 20, 21, 22, 23, 24, 25, 26] (by kernel_rfl) (fun _ a b => ⟨a, b⟩) (u_ rfl rfl rfl (h_ s_ rfl rfl rfl n_) rfl (u_ rfl rfl rfl (M_ 0 N_ n_ rfl rfl rfl) rfl (u_ rfl rfl rfl (h_ s_ rfl rfl rfl n_) rfl (u_ rfl rfl rfl (h_ k_ rfl rfl rfl o_) rfl (u_ rfl rfl rfl (m_ 0 x_ rfl rfl rfl) rfl (u_ rfl rfl rfl (h_ s_ rfl rfl rfl Y_) rfl (u_ rfl rfl rfl (h_ r_ rfl rfl rfl o_) rfl (u_ rfl rfl rfl (m_ 0 x_ rfl rfl rfl) rfl (u_ rfl rfl rfl (h_ s_ rfl rfl rfl n_) rfl ?_)))))))))
    refine u_ rfl rfl rfl (h_ k_ rfl rfl rfl o_) rfl (u_ rfl rfl rfl (m_ 0 x_ rfl rfl rfl) rfl (H_ (P_ 27 rfl (by kernel_rfl) (i_ rfl rfl (S_ (dY_ (Fc.a f) (Pc.t x) (Fc.b f)) rfl D_ (fun _ _ _ => by exact trivial) rfl fun _ => ?_)))))
    refine d_ (z_ rfl (F_ (fun _ a b => ⟨a, b⟩) (I_ 0 [28, 29, 30] (by kernel_rfl) (fun _ a b => ⟨a, b⟩) ?_)))
    refine ai_ rfl rfl rfl (af_ (p := f) (q := (bw_ (Fc.a f) (Pc.t x) (Fc.b f))) rfl rfl) rfl fun r2 hr2 => ?_
    refine l_ rfl (A_ rfl rfl) rfl (l_ rfl (e_ rfl) rfl (H_ (R_ (by kernel_rfl) (b_ rfl (y_ ?_)))))
    exact U_ Tryz.results135 () (q_ rfl (by have p1 := eq_true hr1; rw [← hr2]; simp only [kT_, p1, if_true, if_false, decide_true, decide_false, Bool.and_true, Bool.and_false, Bool.true_and, Bool.false_and, Bool.or_true, Bool.or_false, Bool.true_or, Bool.false_or, Bool.not_true, Bool.not_false, ne_eq, not_true_eq_false, not_false_eq_true, true_and, and_true, false_and, and_false, true_or, or_true, false_or, or_false, ite_true, ite_false, Bool.false_eq_true])) D_ (fun _ _ _ => trivial)
set_option maxHeartbeats 1000000 in
theorem pv_ (kn : Str → Bool) (q : List Str) (hkn : ∀ s, kn s = true ↔ s ∈ q) (es : Array MapEntry) (ec : Nat) (hE : SetE str es q) (vb ab : Nat) (pv fv : Value) (x : Pc) (f ga gb : Fc) (lad : Option Addr) (lcap : Nat) : Tri Tryz.prog 136 #[.agg #[zp_ vb 0, .int .i64 (Fc.kind f), str (Fc.a f), str (Fc.b f), str (Fc.r f), .int .i64 (Fc.lo f), .int .i64 (Fc.hi f), .slice lad (List.length [ga, gb]) lcap, .int .i64 (Pc.kind x), str (Pc.a x), str (Pc.b x), str (Pc.c x), str (Pc.r x), str (Pc.s x), str (Pc.t x), .int .i64 (Pc.lo x), .int .i64 (Pc.hi x), .int .i64 (Pc.frm x)]] [] [cm_ vb (.cells (cZ_ pv ab fv).toArray 83 (0, 0)), cm_ ab (.map es ec), aW_ lad (List.flatMap Fc.cells [ga, gb])] (fun _ : Unit => .bool (it_ kn x f ga gb)) (fun _ => []) (fun _ => []) := by
 refine V_ Tryz.func136 rfl rfl Tryz.ntmps136 rfl fun v0 => ?_
 refine g_ (c_ (aO_ rfl rfl fun b1 => ?_))
 refine a_ (e_ rfl) rfl (d_ (b_ rfl (g_ (c_ (a_ (h_ s_ rfl rfl rfl aS_) rfl (a_ (m_ 0 bp_ rfl rfl rfl) rfl (a_ (ag_ ad_ n_ rfl rfl (fun v _ h => aH_ (n := 6) Fc.cells_len (by decide) (by exact h.2.2.1) (show [ga, gb][0]? = some _ from rfl)) (by omega) (by first | omega | (simp; done))) rfl (a_ (bR_ k_ rfl rfl rfl o_) rfl (a_ (bb_ (ad := lad) x_ rfl (fun v _ h => by exact h.2.2.1) (ak_ Fc.cells_len (show [ga, gb][0]? = some _ from rfl) 2 _ rfl)) rfl ?_)))))))))
 refine a_ (e_ rfl) rfl (d_ (b_ rfl (g_ ?_)))
 refine aw_ (by kernel_rfl) ?_
 refine I_ 33 [0, 1, 2, 3, 4, 5, 6, 7, 8, 9, 10] (by kernel_rfl) (fun _ a b => ⟨a, b⟩) (l_ rfl (h_ s_ rfl rfl rfl aS_) rfl (l_ rfl (m_ 0 bp_ rfl rfl rfl) rfl (l_ rfl (ag_ ad_ n_ rfl rfl (fun v _ h => aH_ (n := 6) Fc.cells_len (by decide) (by exact h.2.2.1) (show [ga, gb][0]? = some _ from rfl)) (by omega) (by first | omega | (simp; done))) rfl (l_ rfl (aM_ (ad := lad) (us := Fc.cells ga) N_ n_ rfl (fun v _ h => by exact h.2.2.1) (Fc.cells_len _) (ak_ Fc.cells_len (show [ga, gb][0]? = some _ from rfl))) rfl (l_ rfl (h_ s_ rfl rfl rfl n_) rfl (l_ rfl (h_ k_ rfl rfl rfl o_) rfl (l_ rfl (m_ 0 x_ rfl rfl rfl) rfl (l_ rfl (h_ s_ rfl rfl rfl Y_) rfl (l_ rfl (h_ r_ rfl rfl rfl o_) rfl ?_)))))))))
 refine l_ rfl (m_ 0 x_ rfl rfl rfl) rfl (l_ rfl (f_ rfl) rfl (H_ (P_ 11 rfl (by kernel_rfl) (S_ (dY_ (Fc.a f) (Pc.r x) (Fc.b ga)) rfl D_ (fun _ _ _ => by exact trivial) rfl fun _ => ?_))))
 refine d_ (z_ rfl (F_ (fun _ a b => ⟨a, b⟩) (I_ 30 [12, 13] (by kernel_rfl) (fun _ a b => ⟨a, b⟩) ?_)))
 refine bf_ rfl (af_ (p := ga) (q := (bw_ (Fc.a f) (Pc.r x) (Fc.b ga))) rfl rfl) rfl fun r1 hr1 => ?_
 refine l_ rfl (f_ rfl) rfl (H_ ?_)
 cases r1
 ·
  replace hr1 := of_decide_eq_false hr1
  refine I_ 0 [14, 15, 16, 17, 18, 19, 20, 21, 22, 23, 24, 25, 26, 27, 28, 29, 30, 31, 32, 33, 34, 35, 36, 37, 38, 39, 40, 41, 42, 43] (by kernel_rfl) (fun _ a b => ⟨a, b⟩) (t_ rfl rfl rfl rfl rfl (t_ rfl rfl rfl rfl rfl (t_ rfl rfl rfl rfl rfl (t_ rfl rfl rfl rfl rfl (t_ rfl rfl rfl rfl rfl (t_ rfl rfl rfl rfl rfl (t_ rfl rfl rfl rfl rfl (t_ rfl rfl rfl rfl rfl (t_ rfl rfl rfl rfl rfl ?_)))))))))
  refine t_ rfl rfl rfl rfl rfl (t_ rfl rfl rfl rfl rfl (t_ rfl rfl rfl rfl rfl (t_ rfl rfl rfl rfl rfl (l_ rfl (p_ rfl rfl) rfl (l_ rfl (f_ rfl) rfl (t_ rfl rfl rfl rfl rfl (t_ rfl rfl rfl rfl rfl (t_ rfl rfl rfl rfl rfl (t_ rfl rfl rfl rfl rfl ?_)))))))))
  refine t_ rfl rfl rfl rfl rfl (t_ rfl rfl rfl rfl rfl (t_ rfl rfl rfl rfl rfl (t_ rfl rfl rfl rfl rfl (t_ rfl rfl rfl rfl rfl (t_ rfl rfl rfl rfl rfl (t_ rfl rfl rfl rfl rfl (t_ rfl rfl rfl rfl rfl (t_ rfl rfl rfl rfl rfl (l_ rfl (p_ rfl rfl) rfl ?_)))))))))
  refine l_ rfl (e_ rfl) rfl (H_ (R_ (by kernel_rfl) (b_ rfl (y_ ?_))))
  exact U_ Tryz.results136 () (q_ rfl (by have p1 := eq_false hr1; simp only [it_, p1, if_true, if_false, decide_true, decide_false, Bool.and_true, Bool.and_false, Bool.true_and, Bool.false_and, Bool.or_true, Bool.or_false, Bool.true_or, Bool.false_or, Bool.not_true, Bool.not_false, ne_eq, not_true_eq_false, not_false_eq_true, true_and, and_true, false_and, and_false, true_or, or_true, false_or, or_false, ite_true, ite_false, Bool.false_eq_true])) D_ (fun _ _ _ => trivial)
 ·
  replace hr1 := of_decide_eq_true hr1
  refine I_ 19 [14, 15, 16, 17, 18, 19, 20, 21, 22, 23, 24] (by kernel_rfl) (fun _ a b => ⟨a, b⟩) (u_ rfl rfl rfl (h_ s_ rfl rfl rfl aS_) rfl (u_ rfl rfl rfl (m_ 0 bp_ rfl rfl rfl) rfl (u_ rfl rfl rfl (ag_ ad_ n_ rfl rfl (fun v _ h => aH_ (n := 6) Fc.cells_len (by decide) (by exact h.2.2.1) (show [ga, gb][1]? = some _ from rfl)) (by omega) (by first | omega | (simp; done))) rfl (u_ rfl rfl rfl (aM_ (ad := lad) (us := Fc.cells gb) N_ n_ rfl (fun v _ h => by exact h.2.2.1) (Fc.cells_len _) (ak_ Fc.cells_len (show [ga, gb][1]? = some _ from rfl))) rfl (u_ rfl rfl rfl (f_ rfl) rfl (u_ rfl rfl rfl (h_ s_ rfl rfl rfl Y_) rfl (u_ rfl rfl rfl (h_ r_ rfl rfl rfl o_) rfl (u_ rfl rfl rfl (m_ 0 x_ rfl rfl rfl) rfl (u_ rfl rfl rfl (h_ s_ rfl rfl rfl n_) rfl ?_)))))))))
  refine u_ rfl rfl rfl (h_ k_ rfl rfl rfl o_) rfl (u_ rfl rfl rfl (m_ 0 x_ rfl rfl rfl) rfl (H_ (P_ 25 rfl (by kernel_rfl) (i_ rfl rfl (S_ (dY_ (Fc.b ga) (Pc.s x) (Fc.b f)) rfl D_ (fun _ _ _ => by exact trivial) rfl fun _ => ?_)))))
  refine d_ (z_ rfl (F_ (fun _ a b => ⟨a, b⟩) (I_ 15 [26, 27, 28] (by kernel_rfl) (fun _ a b => ⟨a, b⟩) ?_)))
  refine ai_ rfl rfl rfl (af_ (p := gb) (q := (bw_ (Fc.b ga) (Pc.s x) (Fc.b f))) rfl rfl) rfl fun r2 hr2 => ?_
  refine l_ rfl (A_ rfl rfl) rfl (l_ rfl (f_ rfl) rfl (H_ ?_))
  cases r2
  ·
   replace hr2 := of_decide_eq_false hr2
   refine I_ 0 [29, 30, 31, 32, 33, 34, 35, 36, 37, 38, 39, 40, 41, 42, 43] (by kernel_rfl) (fun _ a b => ⟨a, b⟩) (t_ rfl rfl rfl rfl rfl (t_ rfl rfl rfl rfl rfl (t_ rfl rfl rfl rfl rfl (t_ rfl rfl rfl rfl rfl (t_ rfl rfl rfl rfl rfl (t_ rfl rfl rfl rfl rfl (t_ rfl rfl rfl rfl rfl (t_ rfl rfl rfl rfl rfl (t_ rfl rfl rfl rfl rfl ?_)))))))))
   refine t_ rfl rfl rfl rfl rfl (t_ rfl rfl rfl rfl rfl (t_ rfl rfl rfl rfl rfl (t_ rfl rfl rfl rfl rfl (l_ rfl (p_ rfl rfl) rfl (l_ rfl (e_ rfl) rfl (H_ (R_ (by kernel_rfl) (b_ rfl (y_ ?_)))))))))
   exact U_ Tryz.results136 () (q_ rfl (by have p1 := eq_true hr1; have p2 := eq_false hr2; simp only [it_, p1, p2, if_true, if_false, decide_true, decide_false, Bool.and_true, Bool.and_false, Bool.true_and, Bool.false_and, Bool.or_true, Bool.or_false, Bool.true_or, Bool.false_or, Bool.not_true, Bool.not_false, ne_eq, not_true_eq_false, not_false_eq_true, true_and, and_true, false_and, and_false, true_or, or_true, false_or, or_false, ite_true, ite_false, Bool.false_eq_true])) D_ (fun _ _ _ => trivial)
  ·
   replace hr2 := of_decide_eq_true hr2
   refine I_ 4 [29, 30, 31, 32, 33, 34, 35, 36, 37, 38, 39] (by kernel_rfl) (fun _ a b => ⟨a, b⟩) (u_ rfl rfl rfl (h_ s_ rfl rfl rfl n_) rfl (u_ rfl rfl rfl (M_ 0 N_ n_ rfl rfl rfl) rfl (u_ rfl rfl rfl (h_ s_ rfl rfl rfl n_) rfl (u_ rfl rfl rfl (h_ k_ rfl rfl rfl o_) rfl (u_ rfl rfl rfl (m_ 0 x_ rfl rfl rfl) rfl (u_ rfl rfl rfl (h_ s_ rfl rfl rfl Y_) rfl (u_ rfl rfl rfl (h_ r_ rfl rfl rfl o_) rfl (u_ rfl rfl rfl (m_ 0 x_ rfl rfl rfl) rfl (u_ rfl rfl rfl (h_ s_ rfl rfl rfl n_) rfl ?_)))))))))
   refine u_ rfl rfl rfl (h_ k_ rfl rfl rfl o_) rfl (u_ rfl rfl rfl (m_ 0 x_ rfl rfl rfl) rfl (H_ (P_ 40 rfl (by kernel_rfl) (i_ rfl rfl (S_ (dY_ (Fc.a f) (Pc.t x) (Fc.b f)) rfl D_ (fun _ _ _ => by exact trivial) rfl fun _ => ?_)))))
   refine d_ (z_ rfl (F_ (fun _ a b => ⟨a, b⟩) (I_ 0 [41, 42, 43] (by kernel_rfl) (fun _ a b => ⟨a, b⟩) ?_)))
   refine ai_ rfl rfl rfl (af_ (p := f) (q := (bw_ (Fc.a f) (Pc.t x) (Fc.b f))) rfl rfl) rfl fun r3 hr3 => ?_
   refine l_ rfl (A_ rfl rfl) rfl (l_ rfl (e_ rfl) rfl (H_ (R_ (by kernel_rfl) (b_ rfl (y_ ?_)))))
   exact U_ Tryz.results136 () (q_ rfl (by have p1 := eq_true hr1; have p2 := eq_true hr2; rw [← hr3]; simp only [it_, p1, p2, if_true, if_false, decide_true, decide_false, Bool.and_true, Bool.and_false, Bool.true_and, Bool.false_and, Bool.or_true, Bool.or_false, Bool.true_or, Bool.false_or, Bool.not_true, Bool.not_false, ne_eq, not_true_eq_false, not_false_eq_true, true_and, and_true, false_and, and_false, true_or, or_true, false_or, or_false, ite_true, ite_false, Bool.false_eq_true])) D_ (fun _ _ _ => trivial)
set_option maxHeartbeats 1000000 in
theorem pu_ (kn : Str → Bool) (q : List Str) (hkn : ∀ s, kn s = true ↔ s ∈ q) (es : Array MapEntry) (ec : Nat) (hE : SetE str es q) (vb ab : Nat) (pv fv : Value) (x : Pc) (f ga gb : Fc) (lad : Option Addr) (lcap : Nat) : Tri Tryz.prog 137 #[.agg #[zp_ vb 0, .int .i64 (Fc.kind f), str (Fc.a f), str (Fc.b f), str (Fc.r f), .int .i64 (Fc.lo f), .int .i64 (Fc.hi f), .slice lad (List.length [ga, gb]) lcap, .int .i64 (Pc.kind x), str (Pc.a x), str (Pc.b x), str (Pc.c x), str (Pc.r x), str (Pc.s x), str (Pc.t x), .int .i64 (Pc.lo x), .int .i64 (Pc.hi x), .int .i64 (Pc.frm x)]] [] [cm_ vb (.cells (cZ_ pv ab fv).toArray 83 (0, 0)), cm_ ab (.map es ec), aW_ lad (List.flatMap Fc.cells [ga, gb])] (fun _ : Unit => .bool (is_ kn x f ga gb)) (fun _ => []) (fun _ => []) := by
 refine V_ Tryz.func137 rfl rfl Tryz.ntmps137 rfl fun v0 => ?_
 refine g_ (c_ (aO_ rfl rfl fun b1 => ?_))
 refine a_ (e_ rfl) rfl (d_ (b_ rfl (g_ (c_ (a_ (h_ s_ rfl rfl rfl aS_) rfl (a_ (m_ 0 bp_ rfl rfl rfl) rfl (a_ (ag_ ad_ n_ rfl rfl (fun v _ h => aH_ (n := 6) Fc.cells_len (by decide) (by exact h.2.2.1) (show [ga, gb][0]? = some _ from rfl)) (by omega) (by first | omega | (simp; done))) rfl (a_ (bR_ k_ rfl rfl rfl o_) rfl (a_ (bb_ (ad := lad) x_ rfl (fun v _ h => by exact h.2.2.1) (ak_ Fc.cells_len (show [ga, gb][0]? = some _ from rfl) 2 _ rfl)) rfl ?_)))))))))
 refine a_ (e_ rfl) rfl (d_ (b_ rfl (g_ ?_)))
 refine aw_ (by kernel_rfl) ?_
 refine I_ 27 [0, 1, 2, 3, 4, 5, 6, 7, 8, 9, 10] (by kernel_rfl) (fun _ a b => ⟨a, b⟩) (l_ rfl (h_ s_ rfl rfl rfl aS_) rfl (l_ rfl (m_ 0 bp_ rfl rfl rfl) rfl (l_ rfl (ag_ ad_ n_ rfl rfl (fun v _ h => aH_ (n := 6) Fc.cells_len (by decide) (by exact h.2.2.1) (show [ga, gb][0]? = some _ from rfl)) (by omega) (by first | omega | (simp; done))) rfl (l_ rfl (aM_ (ad := lad) (us := Fc.cells ga) N_ n_ rfl (fun v _ h => by exact h.2.2.1) (Fc.cells_len _) (ak_ Fc.cells_len (show [ga, gb][0]? = some _ from rfl))) rfl (l_ rfl (h_ s_ rfl rfl rfl n_) rfl (l_ rfl (h_ k_ rfl rfl rfl o_) rfl (l_ rfl (m_ 0 x_ rfl rfl rfl) rfl (l_ rfl (h_ s_ rfl rfl rfl Y_) rfl (l_ rfl (h_ r_ rfl rfl rfl o_) rfl ?_)))))))))
 refine l_ rfl (m_ 0 x_ rfl rfl rfl) rfl (l_ rfl (f_ rfl) rfl (H_ (P_ 11 rfl (by kernel_rfl) (S_ (dY_ (Fc.a f) (Pc.r x) (Fc.b ga)) rfl D_ (fun _ _ _ => by exact trivial) rfl fun _ => ?_))))
 refine d_ (z_ rfl (F_ (fun _ a b => ⟨a, b⟩) (I_ 24 [12, 13] (by kernel_rfl) (fun _ a b => ⟨a, b⟩) ?_)))
 refine bf_ rfl (af_ (p := ga) (q := (bw_ (Fc.a f) (Pc.r x) (Fc.b ga))) rfl rfl) rfl fun r1 hr1 => ?_
 refine l_ rfl (f_ rfl) rfl (H_ ?_)
 cases r1
 ·
  replace hr1 := of_decide_eq_false hr1
  refine I_ 0 [14, 15, 16, 17, 18, 19, 20, 21, 22, 23, 24, 25, 26, 27, 28, 29, 30, 31, 32, 33, 34, 35, 36, 37] (by kernel_rfl) (fun _ a b => ⟨a, b⟩) (t_ rfl rfl rfl rfl rfl (t_ rfl rfl rfl rfl rfl (t_ rfl rfl rfl rfl rfl (t_ rfl rfl rfl rfl rfl (t_ rfl rfl rfl rfl rfl (t_ rfl rfl rfl rfl rfl (t_ rfl rfl rfl rfl rfl (t_ rfl rfl rfl rfl rfl (t_ rfl rfl rfl rfl rfl ?_)))))))))
  refine t_ rfl rfl rfl rfl rfl (l_ rfl (p_ rfl rfl) rfl (l_ rfl (f_ rfl) rfl (t_ rfl rfl rfl rfl rfl (t_ rfl rfl rfl rfl rfl (t_ rfl rfl rfl rfl rfl (t_ rfl rfl rfl rfl rfl (t_ rfl rfl rfl rfl rfl (t_ rfl rfl rfl rfl rfl (t_ rfl rfl rfl rfl rfl ?_)))))))))
  refine t_ rfl rfl rfl rfl rfl (t_ rfl rfl rfl rfl rfl (t_ rfl rfl rfl rfl rfl (l_ rfl (p_ rfl rfl) rfl (l_ rfl (e_ rfl) rfl (H_ (R_ (by kernel_rfl) (b_ rfl (y_ ?_))))))))
  exact U_ Tryz.results137 () (q_ rfl (by have p1 := eq_false hr1; simp only [is_, p1, if_true, if_false, decide_true, decide_false, Bool.and_true, Bool.and_false, Bool.true_and, Bool.false_and, Bool.or_true, Bool.or_false, Bool.true_or, Bool.false_or, Bool.not_true, Bool.not_false, ne_eq, not_true_eq_false, not_false_eq_true, true_and, and_true, false_and, and_false, true_or, or_true, false_or, or_false, ite_true, ite_false, Bool.false_eq_true])) D_ (fun _ _ _ => trivial)
 ·
  replace hr1 := of_decide_eq_true hr1
  refine I_ 16 [14, 15, 16, 17, 18, 19, 20, 21] (by kernel_rfl) (fun _ a b => ⟨a, b⟩) (u_ rfl rfl rfl (h_ s_ rfl rfl rfl aS_) rfl (u_ rfl rfl rfl (m_ 0 bp_ rfl rfl rfl) rfl (u_ rfl rfl rfl (ag_ ad_ n_ rfl rfl (fun v _ h => aH_ (n := 6) Fc.cells_len (by decide) (by exact h.2.2.1) (show [ga, gb][1]? = some _ from rfl)) (by omega) (by first | omega | (simp; done))) rfl (u_ rfl rfl rfl (aM_ (ad := lad) (us := Fc.cells gb) N_ n_ rfl (fun v _ h => by exact h.2.2.1) (Fc.cells_len _) (ak_ Fc.cells_len (show [ga, gb][1]? = some _ from rfl))) rfl (u_ rfl rfl rfl (f_ rfl) rfl (u_ rfl rfl rfl (h_ s_ rfl rfl rfl Y_) rfl (u_ rfl rfl rfl (h_ r_ rfl rfl rfl o_) rfl (u_ rfl rfl rfl (m_ 0 x_ rfl rfl rfl) rfl (H_ ?_)))))))))
  refine P_ 22 rfl (by kernel_rfl) (i_ rfl rfl (S_ (bM_ (Fc.b ga) (Pc.a x)) rfl D_ (fun _ _ _ => by exact trivial) rfl fun _ => ?_))
  refine d_ (z_ rfl (F_ (fun _ a b => ⟨a, b⟩) (I_ 12 [23, 24, 25] (by kernel_rfl) (fun _ a b => ⟨a, b⟩) ?_)))
  refine ai_ rfl rfl rfl (af_ (p := gb) (q := (aJ_ (Fc.b ga) (Pc.a x))) rfl rfl) rfl fun r2 hr2 => ?_
  refine l_ rfl (A_ rfl rfl) rfl (l_ rfl (f_ rfl) rfl (H_ ?_))
  cases r2
  ·
   replace hr2 := of_decide_eq_false hr2
   refine I_ 0 [26, 27, 28, 29, 30, 31, 32, 33, 34, 35, 36, 37] (by kernel_rfl) (fun _ a b => ⟨a, b⟩) (t_ rfl rfl rfl rfl rfl (t_ rfl rfl rfl rfl rfl (t_ rfl rfl rfl rfl rfl (t_ rfl rfl rfl rfl rfl (t_ rfl rfl rfl rfl rfl (t_ rfl rfl rfl rfl rfl (t_ rfl rfl rfl rfl rfl (t_ rfl rfl rfl rfl rfl (t_ rfl rfl rfl rfl rfl ?_)))))))))
   refine t_ rfl rfl rfl rfl rfl (l_ rfl (p_ rfl rfl) rfl (l_ rfl (e_ rfl) rfl (H_ (R_ (by kernel_rfl) (b_ rfl (y_ ?_))))))
   exact U_ Tryz.results137 () (q_ rfl (by have p1 := eq_true hr1; have p2 := eq_false hr2; simp only [is_, p1, p2, if_true, if_false, decide_true, decide_false, Bool.and_true, Bool.and_false, Bool.true_and, Bool.false_and, Bool.or_true, Bool.or_false, Bool.true_or, Bool.false_or, Bool.not_true, Bool.not_false, ne_eq, not_true_eq_false, not_false_eq_true, true_and, and_true, false_and, and_false, true_or, or_true, false_or, or_false, ite_true, ite_false, Bool.false_eq_true])) D_ (fun _ _ _ => trivial)
  ·
   replace hr2 := of_decide_eq_true hr2
   refine I_ 4 [26, 27, 28, 29, 30, 31, 32, 33] (by kernel_rfl) (fun _ a b => ⟨a, b⟩) (u_ rfl rfl rfl (h_ s_ rfl rfl rfl n_) rfl (u_ rfl rfl rfl (M_ 0 N_ n_ rfl rfl rfl) rfl (u_ rfl rfl rfl (h_ s_ rfl rfl rfl n_) rfl (u_ rfl rfl rfl (h_ k_ rfl rfl rfl o_) rfl (u_ rfl rfl rfl (m_ 0 x_ rfl rfl rfl) rfl (u_ rfl rfl rfl (h_ s_ rfl rfl rfl Y_) rfl (u_ rfl rfl rfl (h_ r_ rfl rfl rfl o_) rfl (u_ rfl rfl rfl (m_ 0 x_ rfl rfl rfl) rfl (H_ ?_)))))))))
   refine P_ 34 rfl (by kernel_rfl) (i_ rfl rfl (S_ (bM_ (Fc.a f) (Pc.c x)) rfl D_ (fun _ _ _ => by exact trivial) rfl fun _ => ?_))
   refine d_ (z_ rfl (F_ (fun _ a b => ⟨a, b⟩) (I_ 0 [35, 36, 37] (by kernel_rfl) (fun _ a b => ⟨a, b⟩) ?_)))
   refine ai_ rfl rfl rfl (af_ (p := f) (q := (aJ_ (Fc.a f) (Pc.c x))) rfl rfl) rfl fun r3 hr3 => ?_
   refine l_ rfl (A_ rfl rfl) rfl (l_ rfl (e_ rfl) rfl (H_ (R_ (by kernel_rfl) (b_ rfl (y_ ?_)))))
   exact U_ Tryz.results137 () (q_ rfl (by have p1 := eq_true hr1; have p2 := eq_true hr2; rw [← hr3]; simp only [is_, p1, p2, if_true, if_false, decide_true, decide_false, Bool.and_true, Bool.and_false, Bool.true_and, Bool.false_and, Bool.or_true, Bool.or_false, Bool.true_or, Bool.false_or, Bool.not_true, Bool.not_false, ne_eq, not_true_eq_false, not_false_eq_true, true_and, and_true, false_and, and_false, true_or, or_true, false_or, or_false, ite_true, ite_false, Bool.false_eq_true])) D_ (fun _ _ _ => trivial)
set_option maxHeartbeats 1000000 in
theorem pt_ (kn : Str → Bool) (q : List Str) (hkn : ∀ s, kn s = true ↔ s ∈ q) (es : Array MapEntry) (ec : Nat) (hE : SetE str es q) (vb ab : Nat) (pv fv : Value) (x : Pc) (f ga gb : Fc) (lad : Option Addr) (lcap : Nat) : Tri Tryz.prog 138 #[.agg #[zp_ vb 0, .int .i64 (Fc.kind f), str (Fc.a f), str (Fc.b f), str (Fc.r f), .int .i64 (Fc.lo f), .int .i64 (Fc.hi f), .slice lad (List.length [ga, gb]) lcap, .int .i64 (Pc.kind x), str (Pc.a x), str (Pc.b x), str (Pc.c x), str (Pc.r x), str (Pc.s x), str (Pc.t x), .int .i64 (Pc.lo x), .int .i64 (Pc.hi x), .int .i64 (Pc.frm x)]] [] [cm_ vb (.cells (cZ_ pv ab fv).toArray 83 (0, 0)), cm_ ab (.map es ec), aW_ lad (List.flatMap Fc.cells [ga, gb])] (fun _ : Unit => .bool (ir_ kn x f ga gb)) (fun _ => []) (fun _ => []) := by
  refine V_ Tryz.func138 rfl rfl Tryz.ntmps138 rfl fun v0 => ?_
  refine g_ (c_ (aO_ rfl rfl fun b1 => ?_))
  refine a_ (e_ rfl) rfl (d_ (b_ rfl (g_ (c_ (a_ (h_ s_ rfl rfl rfl aS_) rfl (a_ (m_ 0 bp_ rfl rfl rfl) rfl (a_ (ag_ ad_ n_ rfl rfl (fun v _ h => aH_ (n := 6) Fc.cells_len (by decide) (by exact h.2.2.1) (show [ga, gb][0]? = some _ from rfl)) (by omega) (by first | omega | (simp; done))) rfl (a_ (bR_ k_ rfl rfl rfl o_) rfl (a_ (bb_ (ad := lad) x_ rfl (fun v _ h => by exact h.2.2.1) (ak_ Fc.cells_len (show [ga, gb][0]? = some _ from rfl) 2 _ rfl)) rfl ?_)))))))))
  refine a_ (e_ rfl) rfl (d_ (b_ rfl (g_ ?_)))
  refine aw_ (by kernel_rfl) ?_
  refine I_ 21 [0, 1, 2, 3, 4, 5, 6, 7, 8, 9, 10, 11, 12] (by kernel_rfl) (fun _ a b => ⟨a, b⟩) (l_ rfl (h_ s_ rfl rfl rfl aS_) rfl (l_ rfl (m_ 0 bp_ rfl rfl rfl) rfl (l_ rfl (ag_ ad_ n_ rfl rfl (fun v _ h => aH_ (n := 6) Fc.cells_len (by decide) (by exact h.2.2.1) (show [ga, gb][0]? = some _ from rfl)) (by omega) (by first | omega | (simp; done))) rfl (l_ rfl (aM_ (ad := lad) (us := Fc.cells ga) N_ n_ rfl (fun v _ h => by exact h.2.2.1) (Fc.cells_len _) (ak_ Fc.cells_len (show [ga, gb][0]? = some _ from rfl))) rfl (l_ rfl (h_ s_ rfl rfl rfl n_) rfl (l_ rfl (h_ k_ rfl rfl rfl o_) rfl (l_ rfl (m_ 0 x_ rfl rfl rfl) rfl (l_ rfl (h_ s_ rfl rfl rfl aS_) rfl (l_ rfl (m_ 0 bp_ rfl rfl rfl) rfl ?_)))))))))
  refine l_ rfl (ag_ ad_ n_ rfl rfl (fun v _ h => aH_ (n := 6) Fc.cells_len (by decide) (by exact h.2.2.1) (show [ga, gb][0]? = some _ from rfl)) (by omega) (by first | omega | (simp; done))) rfl (l_ rfl (bR_ k_ rfl rfl rfl o_) rfl (l_ rfl (bb_ (ad := lad) x_ rfl (fun v _ h => by exact h.2.2.1) (ak_ Fc.cells_len (show [ga, gb][0]? = some _ from rfl) 3 _ rfl)) rfl (l_ rfl (f_ rfl) rfl (H_ (P_ 13 rfl (by kernel_rfl) (S_ (dY_ (Fc.a f) (Fc.r ga) (Fc.b ga)) rfl D_ (fun _ _ _ => by exact trivial) rfl fun _ => ?_))))))
  refine d_ (z_ rfl (F_ (fun _ a b => ⟨a, b⟩) (I_ 18 [14, 15] (by kernel_rfl) (fun _ a b => ⟨a, b⟩) ?_)))
  refine bf_ rfl (af_ (p := ga) (q := (bw_ (Fc.a f) (Fc.r ga) (Fc.b ga))) rfl rfl) rfl fun r1 hr1 => ?_
  refine l_ rfl (f_ rfl) rfl (H_ ?_)
  cases r1
  · skip
    replace hr1 := of_decide_eq_false hr1
    refine I_ 0 [16, 17, 18, 19, 20, 21, 22, 23, 24, 25, 26, 27, 28, 29, 30, 31, 32, 33] (by kernel_rfl) (fun _ a b => ⟨a, b⟩) (t_ rfl rfl rfl rfl rfl (t_ rfl rfl rfl rfl rfl (t_ rfl rfl rfl rfl rfl (t_ rfl rfl rfl rfl rfl (t_ rfl rfl rfl rfl rfl (t_ rfl rfl rfl rfl rfl (t_ rfl rfl rfl rfl rfl (l_ rfl (p_ rfl rfl) rfl (l_ rfl (f_ rfl) rfl ?_)))))))))
    refine t_ rfl rfl rfl rfl rfl (t_ rfl rfl rfl rfl rfl (t_ rfl rfl rfl rfl rfl (t_ rfl rfl rfl rfl rfl (t_ rfl rfl rfl rfl rfl (t_ rfl rfl rfl rfl rfl (t_ rfl rfl rfl rfl rfl (l_ rfl (p_ rfl rfl) rfl (l_ rfl (e_ rfl) rfl (H_ ?_)))))))))
    refine R_ (by kernel_rfl) (b_ rfl (y_ ?_))
    exact U_ Tryz.results138 () (q_ rfl (by have p1 := eq_false hr1; simp only [ir_, p1, if_true, if_false, decide_true, decide_false, Bool.and_true, Bool.and_false, Bool.true_and, Bool.false_and, Bool.or_true, Bool.or_false, Bool.true_or, Bool.false_or, Bool.not_true, Bool.not_false, ne_eq, not_true_eq_false, not_false_eq_true, true_and, and_true, false_and, and_false, true_or, or_true, false_or, or_false, ite_true, ite_false, Bool.false_eq_true])) D_ (fun _ _ _ => trivial)
  · skip
    replace hr1 := of_decide_eq_true hr1
    refine I_ 13 [16, 17, 18, 19, 20] (by kernel_rfl) (fun _ a b => ⟨a, b⟩) (u_ rfl rfl rfl (h_ s_ rfl rfl rfl aS_) rfl (u_ rfl rfl rfl (m_ 0 bp_ rfl rfl rfl) rfl (u_ rfl rfl rfl (ag_ ad_ n_ rfl rfl (fun v _ h => aH_ (n := 6) Fc.cells_len (by decide) (by exact h.2.2.1) (show [ga, gb][1]? = some _ from rfl)) (by omega) (by first | omega | (simp; done))) rfl (u_ rfl rfl rfl (aM_ (ad := lad) (us := Fc.cells gb) N_ n_ rfl (fun v _ h => by exact h.2.2.1) (Fc.cells_len _) (ak_ Fc.cells_len (show [ga, gb][1]? = some _ from rfl))) rfl (u_ rfl rfl rfl (f_ rfl) rfl (H_ (P_ 21 rfl (by kernel_rfl) (i_ rfl rfl (S_ (bM_ (Fc.b ga) [33]) rfl D_ (fun _ _ _ => by exact trivial) rfl fun _ => ?_)))))))))
    refine d_ (z_ rfl (F_ (fun _ a b => ⟨a, b⟩) (I_ 9 [22, 23, 24] (by kernel_rfl) (fun _ a b => ⟨a, b⟩) ?_)))
    refine ai_ rfl rfl rfl (af_ (p := gb) (q := (aJ_ (Fc.b ga) [33])) rfl rfl) rfl fun r2 hr2 => ?_
    refine l_ rfl (A_ rfl rfl) rfl (l_ rfl (f_ rfl) rfl (H_ ?_))
    cases r2
    · skip
      replace hr2 := of_decide_eq_false hr2
      refine I_ 0 [25, 26, 27, 28, 29, 30, 31, 32, 33] (by kernel_rfl) (fun _ a b => ⟨a, b⟩) (t_ rfl rfl rfl rfl rfl (t_ rfl rfl rfl rfl rfl (t_ rfl rfl rfl rfl rfl (t_ rfl rfl rfl rfl rfl (t_ rfl rfl rfl rfl rfl (t_ rfl rfl rfl rfl rfl (t_ rfl rfl rfl rfl rfl (l_ rfl (p_ rfl rfl) rfl (l_ rfl (e_ rfl) rfl ?_)))))))))
      refine H_ (R_ (by kernel_rfl) (b_ rfl (y_ ?_)))
      exact U_ Tryz.results138 () (q_ rfl (by have p1 := eq_true hr1; have p2 := eq_false hr2; simp only [ir_, p1, p2, if_true, if_false, decide_true, decide_false, Bool.and_true, Bool.and_false, Bool.true_and, Bool.false_and, Bool.or_true, Bool.or_false, Bool.true_or, Bool.false_or, Bool.not_true, Bool.not_false, ne_eq, not_true_eq_false, not_false_eq_true, true_and, and_true, false_and, and_false, true_or, or_true, false_or, or_false, ite_true, ite_false, Bool.false_eq_true])) D_ (fun _ _ _ => trivial)
    · skip
      replace hr2 := of_decide_eq_true hr2
      refine I_ 4 [25, 26, 27, 28, 29] (by kernel_rfl) (fun _ a b => ⟨a, b⟩) (u_ rfl rfl rfl (h_ s_ rfl rfl rfl n_) rfl (u_ rfl rfl rfl (M_ 0 N_ n_ rfl rfl rfl) rfl (u_ rfl rfl rfl (h_ s_ rfl rfl rfl n_) rfl (u_ rfl rfl rfl (h_ k_ rfl rfl rfl o_) rfl (u_ rfl rfl rfl (m_ 0 x_ rfl rfl rfl) rfl (H_ (P_ 30 rfl (by kernel_rfl) (i_ rfl rfl (S_ (bM_ (Fc.a f) [33]) rfl D_ (fun _ _ _ => by exact trivial) rfl fun _ => ?_)))))))))
      refine d_ (z_ rfl (F_ (fun _ a b => ⟨a, b⟩) (I_ 0 [31, 32, 33] (by kernel_rfl) (fun _ a b => ⟨a, b⟩) ?_)))
      refine ai_ rfl rfl rfl (af_ (p := f) (q := (aJ_ (Fc.a f) [33])) rfl rfl) rfl fun r3 hr3 => ?_
      refine l_ rfl (A_ rfl rfl) rfl (l_ rfl (e_ rfl) rfl (H_ (R_ (by kernel_rfl) (b_ rfl (y_ ?_)))))
      exact U_ Tryz.results138 () (q_ rfl (by have p1 := eq_true hr1; have p2 := eq_true hr2; rw [← hr3]; simp only [ir_, p1, p2, if_true, if_false, decide_true, decide_false, Bool.and_true, Bool.and_false, Bool.true_and, Bool.false_and, Bool.or_true, Bool.or_false, Bool.true_or, Bool.false_or, Bool.not_true, Bool.not_false, ne_eq, not_true_eq_false, not_false_eq_true, true_and, and_true, false_and, and_false, true_or, or_true, false_or, or_false, ite_true, ite_false, Bool.false_eq_true])) D_ (fun _ _ _ => trivial)
set_option maxHeartbeats 1000000 in
theorem oo_ (kn : Str → Bool) (q : List Str) (hkn : ∀ s, kn s = true ↔ s ∈ q) (es : Array MapEntry) (ec : Nat) (hE : SetE str es q) (vb ab : Nat) (pv fv : Value) (x : Pc) (f : Fc) (lad : Option Addr) (lcap : Nat) : Tri Tryz.prog 139 #[.agg #[zp_ vb 0, .int .i64 (Fc.kind f), str (Fc.a f), str (Fc.b f), str (Fc.r f), .int .i64 (Fc.lo f), .int .i64 (Fc.hi f), .slice lad (List.length ([] : List Fc)) lcap, .int .i64 (Pc.kind x), str (Pc.a x), str (Pc.b x), str (Pc.c x), str (Pc.r x), str (Pc.s x), str (Pc.t x), .int .i64 (Pc.lo x), .int .i64 (Pc.hi x), .int .i64 (Pc.frm x)]] [] [cm_ vb (.cells (cZ_ pv ab fv).toArray 83 (0, 0)), cm_ ab (.map es ec), aW_ lad (List.flatMap Fc.cells ([] : List Fc))] (fun _ : Unit => .bool (hv_ kn x f zfc zfc)) (fun _ => []) (fun _ => []) := by
  refine V_ Tryz.func139 rfl rfl Tryz.ntmps139 rfl fun v0 => ?_
  refine g_ (c_ (aO_ rfl rfl fun b1 => ?_))
  refine a_ (e_ rfl) rfl (d_ (b_ rfl (g_ ?_)))
  refine aw_ (by kernel_rfl) ?_
  refine I_ 15 [0, 1, 2, 3, 4, 5, 6, 7, 8, 9] (by kernel_rfl) (fun _ a b => ⟨a, b⟩) (l_ rfl (h_ s_ rfl rfl rfl Tryz.sizeOf74) rfl (l_ rfl (m_ 0 Tryz.isAgg74 rfl rfl rfl) rfl (l_ rfl (bn_ rfl) rfl (l_ rfl (h_ bo_ rfl rfl rfl pX_) rfl (l_ rfl (dr_ Tryz.isAgg77 rfl (fun v _ h => by exact h.1) rfl) rfl (l_ rfl (h_ s_ rfl rfl rfl n_) rfl (l_ rfl (h_ k_ rfl rfl rfl o_) rfl (l_ rfl (m_ 0 x_ rfl rfl rfl) rfl ?_))))))))
  refine bf_ rfl (gZ_ hkn (fE_ (k := (Fc.a f)) ji_ ez_ Tryz.zeroValue4 rfl rfl hE (fun v _ h => (by exact h.2.1 : (cm_ ab (.map es ec)).p v).2))) rfl fun r1 hr1 => ?_
  refine l_ rfl (f_ rfl) rfl (H_ ?_)
  cases r1
  · skip
    refine I_ 0 [10, 11, 12, 13, 14, 15, 16, 17, 18, 19, 20, 21, 22, 23, 24] (by kernel_rfl) (fun _ a b => ⟨a, b⟩) (t_ rfl rfl rfl rfl rfl (t_ rfl rfl rfl rfl rfl (t_ rfl rfl rfl rfl rfl (t_ rfl rfl rfl rfl rfl (t_ rfl rfl rfl rfl rfl (t_ rfl rfl rfl rfl rfl (t_ rfl rfl rfl rfl rfl (t_ rfl rfl rfl rfl rfl (t_ rfl rfl rfl rfl rfl ?_)))))))))
    refine t_ rfl rfl rfl rfl rfl (t_ rfl rfl rfl rfl rfl (t_ rfl rfl rfl rfl rfl (t_ rfl rfl rfl rfl rfl (l_ rfl (p_ rfl rfl) rfl (l_ rfl (e_ rfl) rfl (H_ (R_ (by kernel_rfl) (b_ rfl (y_ ?_)))))))))
    exact U_ Tryz.results139 () (q_ rfl (by simp only [hv_, hr1, if_true, if_false, decide_true, decide_false, Bool.and_true, Bool.and_false, Bool.true_and, Bool.false_and, Bool.or_true, Bool.or_false, Bool.true_or, Bool.false_or, Bool.not_true, Bool.not_false, ne_eq, not_true_eq_false, not_false_eq_true, true_and, and_true, false_and, and_false, true_or, or_true, false_or, or_false, ite_true, ite_false, Bool.false_eq_true])) D_ (fun _ _ _ => trivial)
  · skip
    refine I_ 4 [10, 11, 12, 13, 14, 15, 16, 17, 18, 19, 20] (by kernel_rfl) (fun _ a b => ⟨a, b⟩) (u_ rfl rfl rfl (h_ s_ rfl rfl rfl n_) rfl (u_ rfl rfl rfl (M_ 0 N_ n_ rfl rfl rfl) rfl (u_ rfl rfl rfl (h_ s_ rfl rfl rfl n_) rfl (u_ rfl rfl rfl (h_ k_ rfl rfl rfl o_) rfl (u_ rfl rfl rfl (m_ 0 x_ rfl rfl rfl) rfl (u_ rfl rfl rfl (h_ s_ rfl rfl rfl Y_) rfl (u_ rfl rfl rfl (h_ r_ rfl rfl rfl o_) rfl (u_ rfl rfl rfl (m_ 0 x_ rfl rfl rfl) rfl (u_ rfl rfl rfl (h_ s_ rfl rfl rfl n_) rfl ?_)))))))))
    refine u_ rfl rfl rfl (h_ k_ rfl rfl rfl o_) rfl (u_ rfl rfl rfl (m_ 0 x_ rfl rfl rfl) rfl (H_ (P_ 21 rfl (by kernel_rfl) (i_ rfl rfl (S_ (dY_ (Fc.a f) (Pc.r x) (Fc.a f)) rfl D_ (fun _ _ _ => by exact trivial) rfl fun _ => ?_)))))
    refine d_ (z_ rfl (F_ (fun _ a b => ⟨a, b⟩) (I_ 0 [22, 23, 24] (by kernel_rfl) (fun _ a b => ⟨a, b⟩) ?_)))
    refine ai_ rfl rfl rfl (af_ (p := f) (q := (bw_ (Fc.a f) (Pc.r x) (Fc.a f))) rfl rfl) rfl fun r2 hr2 => ?_
    refine l_ rfl (A_ rfl rfl) rfl (l_ rfl (e_ rfl) rfl (H_ (R_ (by kernel_rfl) (b_ rfl (y_ ?_)))))
    exact U_ Tryz.results139 () (q_ rfl (by rw [← hr2]; simp only [hv_, hr1, if_true, if_false, decide_true, decide_false, Bool.and_true, Bool.and_false, Bool.true_and, Bool.false_and, Bool.or_true, Bool.or_false, Bool.true_or, Bool.false_or, Bool.not_true, Bool.not_false, ne_eq, not_true_eq_false, not_false_eq_true, true_and, and_true, false_and, and_false, true_or, or_true, false_or, or_false, ite_true, ite_false, Bool.false_eq_true])) D_ (fun _ _ _ => trivial)
set_option maxHeartbeats 1000000 in
theorem on_ (kn : Str → Bool) (q : List Str) (hkn : ∀ s, kn s = true ↔ s ∈ q) (es : Array MapEntry) (ec : Nat) (hE : SetE str es q) (vb ab : Nat) (pv fv : Value) (x : Pc) (f ga : Fc) (lad : Option Addr) (lcap : Nat) : Tri Tryz.prog 140 #[.agg #[zp_ vb 0, .int .i64 (Fc.kind f), str (Fc.a f), str (Fc.b f), str (Fc.r f), .int .i64 (Fc.lo f), .int .i64 (Fc.hi f), .slice lad (List.length [ga]) lcap, .int .i64 (Pc.kind x), str (Pc.a x), str (Pc.b x), str (Pc.c x), str (Pc.r x), str (Pc.s x), str (Pc.t x), .int .i64 (Pc.lo x), .int .i64 (Pc.hi x), .int .i64 (Pc.frm x)]] [] [cm_ vb (.cells (cZ_ pv ab fv).toArray 83 (0, 0)), cm_ ab (.map es ec), aW_ lad (List.flatMap Fc.cells [ga])] (fun _ : Unit => .bool (hu_ kn x f ga zfc)) (fun _ => []) (fun _ => []) := by
  refine V_ Tryz.func140 rfl rfl Tryz.ntmps140 rfl fun v0 => ?_
  refine g_ (c_ (aO_ rfl rfl fun b1 => ?_))
  refine a_ (e_ rfl) rfl (d_ (b_ rfl (g_ ?_)))
  refine aw_ (by kernel_rfl) ?_
  refine I_ 21 [0, 1, 2, 3, 4, 5, 6, 7, 8, 9] (by kernel_rfl) (fun _ a b => ⟨a, b⟩) (l_ rfl (h_ s_ rfl rfl rfl aS_) rfl (l_ rfl (m_ 0 bp_ rfl rfl rfl) rfl (l_ rfl (ag_ ad_ n_ rfl rfl (fun v _ h => aH_ (n := 6) Fc.cells_len (by decide) (by exact h.2.2.1) (show [ga][0]? = some _ from rfl)) (by omega) (by first | omega | (simp; done))) rfl (l_ rfl (aM_ (ad := lad) (us := Fc.cells ga) N_ n_ rfl (fun v _ h => by exact h.2.2.1) (Fc.cells_len _) (ak_ Fc.cells_len (show [ga][0]? = some _ from rfl))) rfl (l_ rfl (h_ s_ rfl rfl rfl n_) rfl (l_ rfl (h_ k_ rfl rfl rfl o_) rfl (l_ rfl (m_ 0 x_ rfl rfl rfl) rfl (l_ rfl (h_ s_ rfl rfl rfl Y_) rfl (l_ rfl (h_ r_ rfl rfl rfl o_) rfl ?_)))))))))
  refine l_ rfl (m_ 0 x_ rfl rfl rfl) rfl (H_ (P_ 10 rfl (by kernel_rfl) (S_ (bM_ (Fc.a f) (Pc.a x)) rfl D_ (fun _ _ _ => by exact trivial) rfl fun _ => ?_)))
  refine d_ (z_ rfl (F_ (fun _ a b => ⟨a, b⟩) (I_ 18 [11, 12] (by kernel_rfl) (fun _ a b => ⟨a, b⟩) ?_)))
  refine bf_ rfl (af_ (p := ga) (q := (aJ_ (Fc.a f) (Pc.a x))) rfl rfl) rfl fun r1 hr1 => ?_
  refine l_ rfl (f_ rfl) rfl (H_ ?_)
  cases r1
  · skip
    replace hr1 := of_decide_eq_false hr1
    refine I_ 0 [13, 14, 15, 16, 17, 18, 19, 20, 21, 22, 23, 24, 25, 26, 27, 28, 29, 30] (by kernel_rfl) (fun _ a b => ⟨a, b⟩) (t_ rfl rfl rfl rfl rfl (t_ rfl rfl rfl rfl rfl (t_ rfl rfl rfl rfl rfl (t_ rfl rfl rfl rfl rfl (t_ rfl rfl rfl rfl rfl (t_ rfl rfl rfl rfl rfl (t_ rfl rfl rfl rfl rfl (t_ rfl rfl rfl rfl rfl (t_ rfl rfl rfl rfl rfl ?_)))))))))
    refine t_ rfl rfl rfl rfl rfl (t_ rfl rfl rfl rfl rfl (t_ rfl rfl rfl rfl rfl (t_ rfl rfl rfl rfl rfl (t_ rfl rfl rfl rfl rfl (t_ rfl rfl rfl rfl rfl (t_ rfl rfl rfl rfl rfl (l_ rfl (p_ rfl rfl) rfl (l_ rfl (e_ rfl) rfl (H_ ?_)))))))))
    refine R_ (by kernel_rfl) (b_ rfl (y_ ?_))
    exact U_ Tryz.results140 () (q_ rfl (by have p1 := eq_false hr1; simp only [hu_, p1, if_true, if_false, decide_true, decide_false, Bool.and_true, Bool.and_false, Bool.true_and, Bool.false_and, Bool.or_true, Bool.or_false, Bool.true_or, Bool.false_or, Bool.not_true, Bool.not_false, ne_eq, not_true_eq_false, not_false_eq_true, true_and, and_true, false_and, and_false, true_or, or_true, false_or, or_false, ite_true, ite_false, Bool.false_eq_true])) D_ (fun _ _ _ => trivial)
  · skip
    replace hr1 := of_decide_eq_true hr1
    refine I_ 4 [13, 14, 15, 16, 17, 18, 19, 20, 21, 22, 23, 24, 25, 26] (by kernel_rfl) (fun _ a b => ⟨a, b⟩) (u_ rfl rfl rfl (h_ s_ rfl rfl rfl n_) rfl (u_ rfl rfl rfl (M_ 0 N_ n_ rfl rfl rfl) rfl (u_ rfl rfl rfl (h_ s_ rfl rfl rfl n_) rfl (u_ rfl rfl rfl (h_ k_ rfl rfl rfl o_) rfl (u_ rfl rfl rfl (m_ 0 x_ rfl rfl rfl) rfl (u_ rfl rfl rfl (h_ s_ rfl rfl rfl Y_) rfl (u_ rfl rfl rfl (h_ r_ rfl rfl rfl o_) rfl (u_ rfl rfl rfl (m_ 0 x_ rfl rfl rfl) rfl (u_ rfl rfl rfl (h_ s_ rfl rfl rfl Y_) rfl ?_)))))))))
    refine u_ rfl rfl rfl (h_ r_ rfl rfl rfl w_) rfl (u_ rfl rfl rfl (m_ 0 E_ rfl rfl rfl) rfl (u_ rfl rfl rfl (h_ s_ rfl rfl rfl Y_) rfl (u_ rfl rfl rfl (h_ r_ rfl rfl rfl w_) rfl (u_ rfl rfl rfl (m_ 0 E_ rfl rfl rfl) rfl (H_ (P_ 27 rfl (by kernel_rfl) (i_ rfl rfl (S_ (es_ (Fc.a f) (Pc.r x) (Pc.lo x) (Pc.hi x)) rfl D_ (fun _ _ _ => by exact trivial) rfl fun _ => ?_))))))))
    refine d_ (z_ rfl (F_ (fun _ a b => ⟨a, b⟩) (I_ 0 [28, 29, 30] (by kernel_rfl) (fun _ a b => ⟨a, b⟩) ?_)))
    refine ai_ rfl rfl rfl (af_ (p := f) (q := (ap_ (Fc.a f) (Pc.r x) (Pc.lo x) (Pc.hi x))) rfl rfl) rfl fun r2 hr2 => ?_
    refine l_ rfl (A_ rfl rfl) rfl (l_ rfl (e_ rfl) rfl (H_ (R_ (by kernel_rfl) (b_ rfl (y_ ?_)))))
    exact U_ Tryz.results140 () (q_ rfl (by have p1 := eq_true hr1; rw [← hr2]; simp only [hu_, p1, if_true, if_false, decide_true, decide_false, Bool.and_true, Bool.and_false, Bool.true_and, Bool.false_and, Bool.or_true, Bool.or_false, Bool.true_or, Bool.false_or, Bool.not_true, Bool.not_false, ne_eq, not_true_eq_false, not_false_eq_true, true_and, and_true, false_and, and_false, true_or, or_true, false_or, or_false, ite_true, ite_false, Bool.false_eq_true])) D_ (fun _ _ _ => trivial)
set_option maxHeartbeats 1000000 in
theorem oj_ (kn : Str → Bool) (q : List Str) (hkn : ∀ s, kn s = true ↔ s ∈ q) (es : Array MapEntry) (ec : Nat) (hE : SetE str es q) (vb ab : Nat) (pv fv : Value) (x : Pc) (f ga : Fc) (lad : Option Addr) (lcap : Nat) : Tri Tryz.prog 144 #[.agg #[zp_ vb 0, .int .i64 (Fc.kind f), str (Fc.a f), str (Fc.b f), str (Fc.r f), .int .i64 (Fc.lo f), .int .i64 (Fc.hi f), .slice lad (List.length [ga]) lcap, .int .i64 (Pc.kind x), str (Pc.a x), str (Pc.b x), str (Pc.c x), str (Pc.r x), str (Pc.s x), str (Pc.t x), .int .i64 (Pc.lo x), .int .i64 (Pc.hi x), .int .i64 (Pc.frm x)]] [] [cm_ vb (.cells (cZ_ pv ab fv).toArray 83 (0, 0)), cm_ ab (.map es ec), aW_ lad (List.flatMap Fc.cells [ga])] (fun _ : Unit => .bool (kX_ kn x f ga zfc)) (fun _ => []) (fun _ => []) := by
  refine V_ Tryz.func144 rfl rfl Tryz.ntmps144 rfl fun v0 => ?_
  refine g_ (c_ (aO_ rfl rfl fun b1 => ?_))
  refine a_ (e_ rfl) rfl (d_ (b_ rfl (g_ ?_)))
  refine aw_ (by kernel_rfl) ?_
  refine I_ 3 [0, 1, 2, 3, 4, 5, 6] (by kernel_rfl) (fun _ a b => ⟨a, b⟩) (l_ rfl (h_ s_ rfl rfl rfl aS_) rfl (l_ rfl (m_ 0 bp_ rfl rfl rfl) rfl (l_ rfl (ag_ ad_ n_ rfl rfl (fun v _ h => aH_ (n := 6) Fc.cells_len (by decide) (by exact h.2.2.1) (show [ga][0]? = some _ from rfl)) (by omega) (by first | omega | (simp; done))) rfl (l_ rfl (aM_ (ad := lad) (us := Fc.cells ga) N_ n_ rfl (fun v _ h => by exact h.2.2.1) (Fc.cells_len _) (ak_ Fc.cells_len (show [ga][0]? = some _ from rfl))) rfl (l_ rfl (h_ s_ rfl rfl rfl n_) rfl (l_ rfl (h_ k_ rfl rfl rfl o_) rfl (l_ rfl (m_ 0 x_ rfl rfl rfl) rfl (H_ (P_ 7 rfl (by kernel_rfl) ?_)))))))))
  refine S_ (bM_ (Fc.a f) [33]) rfl D_ (fun _ _ _ => by exact trivial) rfl fun _ => ?_
  refine d_ (z_ rfl (F_ (fun _ a b => ⟨a, b⟩) (I_ 0 [8, 9] (by kernel_rfl) (fun _ a b => ⟨a, b⟩) ?_)))
  refine bf_ rfl (af_ (p := ga) (q := (aJ_ (Fc.a f) [33])) rfl rfl) rfl fun r1 hr1 => ?_
  refine l_ rfl (e_ rfl) rfl (H_ (R_ (by kernel_rfl) (b_ rfl (y_ ?_))))
  exact U_ Tryz.results144 () (q_ rfl (by rw [← hr1]; simp only [kX_, if_true, if_false, decide_true, decide_false, Bool.and_true, Bool.and_false, Bool.true_and, Bool.false_and, Bool.or_true, Bool.or_false, Bool.true_or, Bool.false_or, Bool.not_true, Bool.not_false, ne_eq, not_true_eq_false, not_false_eq_true, true_and, and_true, false_and, and_false, true_or, or_true, false_or, or_false, ite_true, ite_false, Bool.false_eq_true])) D_ (fun _ _ _ => trivial)
end Go.Proofs.YtaffcjgphlhppaaGreatDoor
namespace Go.Proofs.YtaffcjgphlhppaaGreatDoor
open Go Go.Sx Go.Proofs
attribute [local irreducible] Code.wp wpList wpAnyH
open Go.Vs
theorem mc_ : gW_ Tryz.prog 243 [(0, 1)] [.nilFunc] := ⟨_, Tryz.zeroValue243, Tryz.runUnderlying243, fun w => by simp [Tryz.sizeOf241]⟩
theorem ivG_c (a b : Int) : Fn0 Tryz.prog 242 #[.int .i64 a, .int .i64 b] (.bool (decide (b < a))) := by
  refine V_ Tryz.func242 rfl rfl Tryz.ntmps242 rfl fun v0 => ?_
  refine g_ (c_ (a_ (e_ rfl) rfl (d_ (b_ rfl (g_ (c_ (a_ (f_ rfl) rfl (a_ (f_ rfl) rfl (C_ (bD_ rfl rfl) rfl fun r1 hr1 => ?_)))))))))
  refine a_ (e_ rfl) rfl (d_ (b_ rfl (y_ ?_)))
  exact U_ Tryz.results242 () (q_ rfl (hr1).symm) D_ (fun _ _ _ => trivial)
theorem ivL_c (a b : Int) : Fn0 Tryz.prog 243 #[.int .i64 a, .int .i64 b] (.bool (decide (a < b))) := by
  refine V_ Tryz.func243 rfl rfl Tryz.ntmps243 rfl fun v0 => ?_
  refine g_ (c_ (a_ (e_ rfl) rfl (d_ (b_ rfl (g_ (c_ (a_ (f_ rfl) rfl (a_ (f_ rfl) rfl (C_ (as_ rfl rfl) rfl fun r1 hr1 => ?_)))))))))
  refine a_ (e_ rfl) rfl (d_ (b_ rfl (y_ ?_)))
  exact U_ Tryz.results243 () (q_ rfl (hr1).symm) D_ (fun _ _ _ => trivial)
theorem ivGr_c : Fn0 Tryz.prog 209 #[] (.agg #[.func (.func 242) #[] #[]]) := by
  refine V_ Tryz.func209 rfl rfl Tryz.ntmps209 rfl fun v0 => ?_
  refine g_ (c_ (am_ Tryz.zeroValue243 rfl fun b1 => ?_))
  refine d_ (b_ rfl (g_ (c_ (a_ (ax_ mc_ rfl rfl) rfl (W_ 0 Tryz.sizeOf243 rfl rfl rfl rfl rfl rfl (d_ (b_ rfl (y_ ?_))))))))
  exact fI_ () (fun aa v h1 h2 => co_ (us := [.func (.func 242) #[] #[]]) 0 Tryz.results209 Tryz.isAgg243 Tryz.sizeOf243 rfl rfl rfl aa v h1 h2) D_ (fun _ _ _ => trivial)
theorem ivLe_c : Fn0 Tryz.prog 211 #[] (.agg #[.func (.func 243) #[] #[]]) := by
  refine V_ Tryz.func211 rfl rfl Tryz.ntmps211 rfl fun v0 => ?_
  refine g_ (c_ (am_ Tryz.zeroValue243 rfl fun b1 => ?_))
  refine d_ (b_ rfl (g_ (c_ (a_ (ax_ mc_ rfl rfl) rfl (W_ 0 Tryz.sizeOf243 rfl rfl rfl rfl rfl rfl (d_ (b_ rfl (y_ ?_))))))))
  exact fI_ () (fun aa v h1 h2 => co_ (us := [.func (.func 243) #[] #[]]) 0 Tryz.results211 Tryz.isAgg243 Tryz.sizeOf243 rfl rfl rfl aa v h1 h2) D_ (fun _ _ _ => trivial)
theorem pE_ (a b : Int) : Fn0 Tryz.prog 210 #[.agg #[.func (.func 242) #[] #[]], .int .i64 a, .int .i64 b] (.int .i64 (max a b)) := by
  refine V_ Tryz.func210 rfl rfl Tryz.ntmps210 rfl fun v0 => ?_
  refine g_ (c_ (aO_ rfl rfl fun b1 => ?_))
  refine a_ (e_ rfl) rfl (d_ (b_ rfl (g_ (g_ (c_ (a_ (h_ Tryz.runUnderlying243 rfl rfl rfl Tryz.sizeOf241) rfl (a_ (m_ 0 Tryz.isAgg241 rfl rfl rfl) rfl (a_ (f_ rfl) rfl (a_ (f_ rfl) rfl ?_)))))))))
  refine bV_ (ivG_c a b) rfl rfl D_ (fun _ _ _ => by exact trivial) rfl fun r1 hr1 => ?_
  refine d_ (b_ rfl ?_)
  cases r1
  · skip
    replace hr1 := of_decide_eq_false hr1
    refine B_ rfl (J_ (b_ rfl (g_ (c_ (a_ (f_ rfl) rfl (a_ (e_ rfl) rfl (d_ (b_ rfl (y_ ?_)))))))))
    exact U_ Tryz.results210 () (ar_ rfl (by omega)) D_ (fun _ _ _ => trivial)
  · skip
    replace hr1 := of_decide_eq_true hr1
    refine v_ rfl (g_ (c_ (a_ (f_ rfl) rfl (a_ (e_ rfl) rfl (d_ (b_ rfl (y_ ?_)))))))
    exact U_ Tryz.results210 () (ar_ rfl (by omega)) D_ (fun _ _ _ => trivial)
theorem pD_ (a b : Int) : Fn0 Tryz.prog 210 #[.agg #[.func (.func 243) #[] #[]], .int .i64 a, .int .i64 b] (.int .i64 (min a b)) := by
  refine V_ Tryz.func210 rfl rfl Tryz.ntmps210 rfl fun v0 => ?_
  refine g_ (c_ (aO_ rfl rfl fun b1 => ?_))
  refine a_ (e_ rfl) rfl (d_ (b_ rfl (g_ (g_ (c_ (a_ (h_ Tryz.runUnderlying243 rfl rfl rfl Tryz.sizeOf241) rfl (a_ (m_ 0 Tryz.isAgg241 rfl rfl rfl) rfl (a_ (f_ rfl) rfl (a_ (f_ rfl) rfl ?_)))))))))
  refine bV_ (ivL_c a b) rfl rfl D_ (fun _ _ _ => by exact trivial) rfl fun r1 hr1 => ?_
  refine d_ (b_ rfl ?_)
  cases r1
  · skip
    replace hr1 := of_decide_eq_false hr1
    refine B_ rfl (J_ (b_ rfl (g_ (c_ (a_ (f_ rfl) rfl (a_ (e_ rfl) rfl (d_ (b_ rfl (y_ ?_)))))))))
    exact U_ Tryz.results210 () (ar_ rfl (by omega)) D_ (fun _ _ _ => trivial)
  · skip
    replace hr1 := of_decide_eq_true hr1
    refine v_ rfl (g_ (c_ (a_ (f_ rfl) rfl (a_ (e_ rfl) rfl (d_ (b_ rfl (y_ ?_)))))))
    exact U_ Tryz.results210 () (ar_ rfl (by omega)) D_ (fun _ _ _ => trivial)
def os_ (i : Int × Int) : Prop := -1099511627776 ≤ i.1 ∧ i.1 ≤ i.2 ∧ i.2 ≤ 1099511627776
theorem na_ {a b : Int × Int} (ha : os_ a) (hb : os_ b) : en_ [a, b] = 0 := by
  have e : ∀ i : Int × Int, os_ i → dZ_ i = 0 := fun i h => by
    obtain ⟨h1, h2, h3⟩ := h
    unfold dZ_; rw [if_neg (by omega), if_neg (by omega)]
  simp [en_, gp_, e a ha, e b hb]
def eG_ (i j : Int × Int) : (Int × Int) × Int := if max i.1 j.1 ≤ min i.2 j.2 then ((max i.1 j.1, min i.2 j.2), 0) else ((0, 0), 80)
theorem nT_ {P : Program} {N : Nat} {fr : Fr} {H : Hp} {fn : Func} {t s b n : Nat} {ty T : TypeId} {us : List Value} {u : Value} (i : Nat) (hr : fn.results = #[.cell t ty, .tmp s]) (ha : ∀ w, (isAgg ty).run P w = .ok true w) (hs : ∀ w, (sizeOf ty).run P w = .ok n w) (hn : us.length = n) (hx : Fr.get fr t = some (zp_ b 0)) (hu : Fr.get fr s = some u)
    (hi : H[i]? = some (b, .cells us.toArray T (0, 0))) (a : Act) (v : Vw) (h1 : Fr.sat N fr a) (h2 : v.sat H) : (results fn a.tmps).run P v.w = .ok (.tuple #[.agg us.toArray, u]) v.w := by
  have e := h1.val t _ hx
  have e' := h1.val s _ hu
  have hl := cv_ (t := ty) (w := v.w) (b := b) (off := 0) ha hs hn (fun j y hj => by rw [Nat.zero_add, eB_ h2 hi]; simpa using hj)
  simp [results, hr, e, e', asAddr, hl]
theorem gK_ (i j : Int × Int) (hi : os_ i) (hj : os_ j) : Tri Tryz.prog 182 #[ivV i, ivV j] [] [] (fun y : {y : (Int × Int) × Int // y = eG_ i j} => .tuple #[ivV y.1.1, .int .i64 y.1.2]) (fun _ => []) (fun _ => []) := by
  refine V_ Tryz.func182 rfl rfl Tryz.ntmps182 rfl fun v0 => ?_
  refine g_ (c_ (aO_ rfl rfl fun b1 => ?_))
  refine aO_ rfl rfl fun b2 => ?_
  refine am_ ay_ rfl fun b3 => ?_
  refine a_ (e_ rfl) rfl (d_ (b_ rfl (g_ (g_ (c_ (a_ (M_ 2 cl_ ah_ rfl rfl rfl) rfl (a_ (M_ 1 cl_ ah_ rfl rfl rfl) rfl (bk_ mL_ ah_ ay_ rfl rfl rfl rfl rfl rfl fun b4 => ?_))))))))
  refine bS_ (List.flatMap ivC [i, j]) G_ rfl ?_
  refine S_ (ms_ [i, j] (some ⟨b4, 0, none⟩) 2 (by simp)) rfl D_ (fun v _ h => by exact ⟨h.1, trivial⟩) rfl fun _ => ?_
  refine a_ (e_ rfl) rfl (d_ (b_ rfl (g_ (c_ (a_ (f_ rfl) rfl (C_ (bA_ rfl rfl) rfl fun r1 hr1 => ?_))))))
  refine d_ (b_ rfl ?_)
  cases r1
  · skip
    replace hr1 := bt_ hr1
    refine B_ rfl (J_ (b_ rfl (g_ ?_)))
    refine cM_ ((b2, .cells #[.int .i64 (Prod.fst j), .int .i64 (Prod.snd j)] 196 (0, 0)) :: ((b1, .cells #[.int .i64 (Prod.fst i), .int .i64 (Prod.snd i)] 196 (0, 0)) :: [])) (by kernel_rfl) ?_
    refine I_ 6 [1, 2, 3, 4, 7, 8, 9, 10] (by kernel_rfl) (fun _ a b => ⟨a.tail, b⟩) (l_ rfl (h_ L_ rfl rfl rfl w_) rfl (l_ rfl (m_ 1 E_ rfl rfl rfl) rfl (l_ rfl (h_ L_ rfl rfl rfl w_) rfl (l_ rfl (m_ 0 E_ rfl rfl rfl) rfl (l_ rfl (h_ L_ rfl rfl rfl w_) rfl (l_ rfl (m_ 1 E_ rfl rfl rfl) rfl (l_ rfl (h_ L_ rfl rfl rfl w_) rfl (l_ rfl (m_ 0 E_ rfl rfl rfl) rfl (H_ ?_)))))))))
    refine P_ 0 rfl (by kernel_rfl) (S_ (ivGr_c) rfl D_ (fun _ _ _ => by exact trivial) rfl fun _ => ?_)
    refine d_ (z_ rfl (F_ (fun _ a b => ⟨a.tail, b⟩) (P_ 5 rfl (by kernel_rfl) (S_ (pE_ (Prod.fst i) (Prod.fst j)) rfl D_ (fun _ _ _ => by exact trivial) rfl fun _ => ?_))))
    refine d_ (z_ rfl (F_ (fun _ a b => ⟨a.tail, b⟩) (P_ 6 rfl (by kernel_rfl) (S_ (ivLe_c) rfl D_ (fun _ _ _ => by exact trivial) rfl fun _ => ?_))))
    refine d_ (z_ rfl (F_ (fun _ a b => ⟨a.tail, b⟩) (P_ 11 rfl (by kernel_rfl) (S_ (pD_ (Prod.snd i) (Prod.snd j)) rfl D_ (fun _ _ _ => by exact trivial) rfl fun _ => ?_))))
    refine d_ (z_ rfl (F_ (fun _ a b => ⟨a.tail, b⟩) (I_ 1 [12] (by kernel_rfl) (fun _ a b => ⟨a.tail, b⟩) (l_ rfl (ax_ fr_ rfl rfl) rfl (H_ (P_ 13 rfl (by kernel_rfl) (W_ 0 ah_ rfl rfl rfl rfl rfl rfl (d_ (z_ rfl ?_)))))))))
    refine F_ (fun _ a b => ⟨a.tail, b⟩) (R_ (by kernel_rfl) (b_ rfl (g_ (g_ (c_ (a_ (h_ L_ rfl rfl rfl w_) rfl (a_ (m_ 0 E_ rfl rfl rfl) rfl (a_ (h_ L_ rfl rfl rfl w_) rfl (a_ (m_ 0 E_ rfl rfl rfl) rfl ?_)))))))))
    refine C_ (bD_ rfl rfl) rfl fun r2 hr2 => ?_
    refine d_ (b_ rfl ?_)
    cases r2
    · skip
      replace hr2 := of_decide_eq_false hr2
      refine B_ rfl (J_ (b_ rfl (g_ (c_ (a_ (M_ 0 cl_ ah_ rfl rfl rfl) rfl (W_ 0 ah_ rfl rfl rfl rfl rfl rfl (a_ (e_ rfl) rfl (d_ (b_ rfl ?_)))))))))
      refine y_ ?_
      have hz : eG_ i j = (((max (Prod.fst i) (Prod.fst j)), (min (Prod.snd i) (Prod.snd j))), 0) := by unfold eG_; first | rw [if_pos (by omega)] | rw [if_neg (by omega)]
      exact fI_ ⟨eG_ i j, rfl⟩ (fun aa v h1 h2 => by rw [hz]; exact nT_ 0 Tryz.results182 cl_ ah_ rfl rfl rfl rfl aa v h1 h2) D_ (fun _ _ _ => trivial)
    · skip
      replace hr2 := of_decide_eq_true hr2
      refine v_ rfl (g_ (c_ (a_ (ax_ fr_ rfl rfl) rfl (W_ 0 ah_ rfl rfl rfl rfl rfl rfl (a_ (e_ rfl) rfl (d_ (b_ rfl (y_ ?_))))))))
      have hz : eG_ i j = ((0, 0), 80) := by unfold eG_; first | rw [if_pos (by omega)] | rw [if_neg (by omega)]
      exact fI_ ⟨eG_ i j, rfl⟩ (fun aa v h1 h2 => by rw [hz]; exact nT_ 0 Tryz.results182 cl_ ah_ rfl rfl rfl rfl aa v h1 h2) D_ (fun _ _ _ => trivial)
  · skip
    replace hr1 := bs_ hr1
    exfalso; exact hr1 (na_ hi hj)
theorem jh_ (feat : Str) (kn : Str → Bool) (q : List Str) (hkn : ∀ s, kn s = true ↔ s ∈ q) (es : Array MapEntry) (ec : Nat) (hE : SetE str es q) (vb ab : Nat) (pv fv : Value) (x : Pc) (f ga : Fc) (lad : Option Addr) (lcap : Nat) : TriX Tryz.prog 183 #[.agg #[zp_ vb 0, .int .i64 (Fc.kind f), str (Fc.a f), str (Fc.b f), str (Fc.r f), .int .i64 (Fc.lo f), .int .i64 (Fc.hi f), .slice lad (List.length [ga]) lcap, .int .i64 (Pc.kind x), str (Pc.a x), str (Pc.b x), str (Pc.c x), str (Pc.r x), str (Pc.s x), str (Pc.t x), .int .i64 (Pc.lo x), .int .i64 (Pc.hi x), .int .i64 (Pc.frm x)], .int .i64 0, str feat] [] [cm_ vb (.cells (cZ_ pv ab fv).toArray 83 (0, 0)), cm_ ab (.map es ec), aW_ lad (List.flatMap Fc.cells [ga])] (fun _ : {u : Unit // ga = ap_ (Fc.a f) feat (Fc.lo ga) (Fc.hi ga)} => .agg #[.int .i64 (Fc.lo ga), .int .i64 (Fc.hi ga)]) (fun _ => []) (fun _ => []) (¬ ga = ap_ (Fc.a f) feat (Fc.lo ga) (Fc.hi ga)) := by
  refine by_ Tryz.func183 rfl rfl Tryz.ntmps183 rfl fun v0 => ?_
  refine g_ (c_ (aO_ rfl rfl fun b1 => ?_))
  refine am_ ay_ rfl fun b2 => ?_
  refine d_ (b_ rfl (g_ (c_ (a_ (h_ s_ rfl rfl rfl aS_) rfl (a_ (m_ 1 bp_ rfl rfl rfl) rfl (a_ (f_ rfl) rfl (a_ (ag_ ad_ n_ rfl rfl (fun v _ h => aH_ (n := 6) Fc.cells_len (by decide) (by exact h.2.2.1) (show [ga][0]? = some _ from rfl)) (by omega) (by first | omega | (simp; done))) rfl (a_ (aM_ (ad := lad) (us := Fc.cells ga) N_ n_ rfl (fun v _ h => by exact h.2.2.1) (Fc.cells_len _) (ak_ Fc.cells_len (show [ga][0]? = some _ from rfl))) rfl (am_ bc_ rfl fun b3 => ?_)))))))))
  refine W_ 0 n_ rfl rfl rfl rfl rfl rfl (d_ (b_ rfl (g_ ?_)))
  refine aw_ (by kernel_rfl) ?_
  refine I_ 3 [0, 1, 2, 3, 4, 5, 6, 7, 8] (by kernel_rfl) (fun _ a b => ⟨a, b⟩) (l_ rfl (M_ 0 N_ n_ rfl rfl rfl) rfl (l_ rfl (h_ s_ rfl rfl rfl n_) rfl (l_ rfl (h_ k_ rfl rfl rfl o_) rfl (l_ rfl (m_ 2 x_ rfl rfl rfl) rfl (l_ rfl (f_ rfl) rfl (l_ rfl (h_ k_ rfl rfl rfl w_) rfl (l_ rfl (m_ 0 E_ rfl rfl rfl) rfl (l_ rfl (h_ k_ rfl rfl rfl w_) rfl (l_ rfl (m_ 0 E_ rfl rfl rfl) rfl ?_)))))))))
  refine H_ (P_ 9 rfl (by kernel_rfl) (S_ (es_ (Fc.a f) feat (Fc.lo ga) (Fc.hi ga)) rfl D_ (fun _ _ _ => by exact trivial) rfl fun _ => ?_))
  refine d_ (z_ rfl (F_ (fun _ a b => ⟨a, b⟩) (I_ 1 [10] (by kernel_rfl) (fun _ a b => ⟨a, b⟩) ?_)))
  refine bf_ rfl (af_ (p := ga) (q := (ap_ (Fc.a f) feat (Fc.lo ga) (Fc.hi ga))) rfl rfl) rfl fun r1 hr1 => ?_
  refine H_ (P_ 11 rfl (by kernel_rfl) (au_ (di_ r1) rfl D_ (fun _ _ _ => by exact trivial) rfl (fun hb => cw_ ((by rw [hb] at hr1; exact of_decide_eq_false hr1))) fun ⟨_, hn1⟩ => ?_))
  try dsimp only
  have hspn : ga = ap_ (Fc.a f) feat (Fc.lo ga) (Fc.hi ga) := of_decide_eq_true (hr1.trans hn1)
  refine d_ (z_ rfl (F_ (fun _ a b => ⟨a, b⟩) (R_ (by kernel_rfl) (b_ rfl (g_ (c_ (a_ (h_ k_ rfl rfl rfl w_) rfl (a_ (m_ 0 E_ rfl rfl rfl) rfl (a_ (h_ k_ rfl rfl rfl w_) rfl ?_)))))))))
  refine a_ (m_ 0 E_ rfl rfl rfl) rfl (a_ (ax_ fr_ rfl rfl) rfl (W_ 1 ah_ rfl rfl rfl rfl rfl rfl (d_ (b_ rfl (y_ ?_)))))
  refine cf_ ?_
  exact fI_ ⟨(), hspn⟩ (fun aa v h1 h2 => co_ (us := [_, _]) 1 Tryz.results183 cl_ ah_ rfl rfl rfl aa v h1 h2) D_ (fun _ _ _ => trivial)
theorem dW_ (feat : Str) (kn : Str → Bool) (q : List Str) (hkn : ∀ s, kn s = true ↔ s ∈ q) (es : Array MapEntry) (ec : Nat) (hE : SetE str es q) (vb ab : Nat) (pv fv : Value) (x : Pc) (f ga gb : Fc) (lad : Option Addr) (lcap : Nat) : TriX Tryz.prog 183 #[.agg #[zp_ vb 0, .int .i64 (Fc.kind f), str (Fc.a f), str (Fc.b f), str (Fc.r f), .int .i64 (Fc.lo f), .int .i64 (Fc.hi f), .slice lad (List.length [ga, gb]) lcap, .int .i64 (Pc.kind x), str (Pc.a x), str (Pc.b x), str (Pc.c x), str (Pc.r x), str (Pc.s x), str (Pc.t x), .int .i64 (Pc.lo x), .int .i64 (Pc.hi x), .int .i64 (Pc.frm x)], .int .i64 0, str feat] [] [cm_ vb (.cells (cZ_ pv ab fv).toArray 83 (0, 0)), cm_ ab (.map es ec), aW_ lad (List.flatMap Fc.cells [ga, gb])] (fun _ : {u : Unit // ga = ap_ (Fc.a f) feat (Fc.lo ga) (Fc.hi ga)} => .agg #[.int .i64 (Fc.lo ga), .int .i64 (Fc.hi ga)]) (fun _ => []) (fun _ => []) (¬ ga = ap_ (Fc.a f) feat (Fc.lo ga) (Fc.hi ga)) := by
  refine by_ Tryz.func183 rfl rfl Tryz.ntmps183 rfl fun v0 => ?_
  refine g_ (c_ (aO_ rfl rfl fun b1 => ?_))
  refine am_ ay_ rfl fun b2 => ?_
  refine d_ (b_ rfl (g_ (c_ (a_ (h_ s_ rfl rfl rfl aS_) rfl (a_ (m_ 1 bp_ rfl rfl rfl) rfl (a_ (f_ rfl) rfl (a_ (ag_ ad_ n_ rfl rfl (fun v _ h => aH_ (n := 6) Fc.cells_len (by decide) (by exact h.2.2.1) (show [ga, gb][0]? = some _ from rfl)) (by omega) (by first | omega | (simp; done))) rfl (a_ (aM_ (ad := lad) (us := Fc.cells ga) N_ n_ rfl (fun v _ h => by exact h.2.2.1) (Fc.cells_len _) (ak_ Fc.cells_len (show [ga, gb][0]? = some _ from rfl))) rfl (am_ bc_ rfl fun b3 => ?_)))))))))
  refine W_ 0 n_ rfl rfl rfl rfl rfl rfl (d_ (b_ rfl (g_ ?_)))
  refine aw_ (by kernel_rfl) ?_
  refine I_ 3 [0, 1, 2, 3, 4, 5, 6, 7, 8] (by kernel_rfl) (fun _ a b => ⟨a, b⟩) (l_ rfl (M_ 0 N_ n_ rfl rfl rfl) rfl (l_ rfl (h_ s_ rfl rfl rfl n_) rfl (l_ rfl (h_ k_ rfl rfl rfl o_) rfl (l_ rfl (m_ 2 x_ rfl rfl rfl) rfl (l_ rfl (f_ rfl) rfl (l_ rfl (h_ k_ rfl rfl rfl w_) rfl (l_ rfl (m_ 0 E_ rfl rfl rfl) rfl (l_ rfl (h_ k_ rfl rfl rfl w_) rfl (l_ rfl (m_ 0 E_ rfl rfl rfl) rfl ?_)))))))))
  refine H_ (P_ 9 rfl (by kernel_rfl) (S_ (es_ (Fc.a f) feat (Fc.lo ga) (Fc.hi ga)) rfl D_ (fun _ _ _ => by exact trivial) rfl fun _ => ?_))
  refine d_ (z_ rfl (F_ (fun _ a b => ⟨a, b⟩) (I_ 1 [10] (by kernel_rfl) (fun _ a b => ⟨a, b⟩) ?_)))
  refine bf_ rfl (af_ (p := ga) (q := (ap_ (Fc.a f) feat (Fc.lo ga) (Fc.hi ga))) rfl rfl) rfl fun r1 hr1 => ?_
  refine H_ (P_ 11 rfl (by kernel_rfl) (au_ (di_ r1) rfl D_ (fun _ _ _ => by exact trivial) rfl (fun hb => cw_ ((by rw [hb] at hr1; exact of_decide_eq_false hr1))) fun ⟨_, hn1⟩ => ?_))
  try dsimp only
  have hspn : ga = ap_ (Fc.a f) feat (Fc.lo ga) (Fc.hi ga) := of_decide_eq_true (hr1.trans hn1)
  refine d_ (z_ rfl (F_ (fun _ a b => ⟨a, b⟩) (R_ (by kernel_rfl) (b_ rfl (g_ (c_ (a_ (h_ k_ rfl rfl rfl w_) rfl (a_ (m_ 0 E_ rfl rfl rfl) rfl (a_ (h_ k_ rfl rfl rfl w_) rfl ?_)))))))))
  refine a_ (m_ 0 E_ rfl rfl rfl) rfl (a_ (ax_ fr_ rfl rfl) rfl (W_ 1 ah_ rfl rfl rfl rfl rfl rfl (d_ (b_ rfl (y_ ?_)))))
  refine cf_ ?_
  exact fI_ ⟨(), hspn⟩ (fun aa v h1 h2 => co_ (us := [_, _]) 1 Tryz.results183 cl_ ah_ rfl rfl rfl aa v h1 h2) D_ (fun _ _ _ => trivial)
theorem cu_ (feat : Str) (kn : Str → Bool) (q : List Str) (hkn : ∀ s, kn s = true ↔ s ∈ q) (es : Array MapEntry) (ec : Nat) (hE : SetE str es q) (vb ab : Nat) (pv fv : Value) (x : Pc) (f ga gb : Fc) (lad : Option Addr) (lcap : Nat) : TriX Tryz.prog 183 #[.agg #[zp_ vb 0, .int .i64 (Fc.kind f), str (Fc.a f), str (Fc.b f), str (Fc.r f), .int .i64 (Fc.lo f), .int .i64 (Fc.hi f), .slice lad (List.length [ga, gb]) lcap, .int .i64 (Pc.kind x), str (Pc.a x), str (Pc.b x), str (Pc.c x), str (Pc.r x), str (Pc.s x), str (Pc.t x), .int .i64 (Pc.lo x), .int .i64 (Pc.hi x), .int .i64 (Pc.frm x)], .int .i64 1, str feat] [] [cm_ vb (.cells (cZ_ pv ab fv).toArray 83 (0, 0)), cm_ ab (.map es ec), aW_ lad (List.flatMap Fc.cells [ga, gb])] (fun _ : {u : Unit // gb = ap_ (Fc.a f) feat (Fc.lo gb) (Fc.hi gb)} => .agg #[.int .i64 (Fc.lo gb), .int .i64 (Fc.hi gb)]) (fun _ => []) (fun _ => []) (¬ gb = ap_ (Fc.a f) feat (Fc.lo gb) (Fc.hi gb)) := by
  refine by_ Tryz.func183 rfl rfl Tryz.ntmps183 rfl fun v0 => ?_
  refine g_ (c_ (aO_ rfl rfl fun b1 => ?_))
  refine am_ ay_ rfl fun b2 => ?_
  refine d_ (b_ rfl (g_ (c_ (a_ (h_ s_ rfl rfl rfl aS_) rfl (a_ (m_ 1 bp_ rfl rfl rfl) rfl (a_ (f_ rfl) rfl (a_ (ag_ ad_ n_ rfl rfl (fun v _ h => aH_ (n := 6) Fc.cells_len (by decide) (by exact h.2.2.1) (show [ga, gb][1]? = some _ from rfl)) (by omega) (by first | omega | (simp; done))) rfl (a_ (aM_ (ad := lad) (us := Fc.cells gb) N_ n_ rfl (fun v _ h => by exact h.2.2.1) (Fc.cells_len _) (ak_ Fc.cells_len (show [ga, gb][1]? = some _ from rfl))) rfl (am_ bc_ rfl fun b3 => ?_)))))))))
  refine W_ 0 n_ rfl rfl rfl rfl rfl rfl (d_ (b_ rfl (g_ ?_)))
  refine aw_ (by kernel_rfl) ?_
  refine I_ 3 [0, 1, 2, 3, 4, 5, 6, 7, 8] (by kernel_rfl) (fun _ a b => ⟨a, b⟩) (l_ rfl (M_ 0 N_ n_ rfl rfl rfl) rfl (l_ rfl (h_ s_ rfl rfl rfl n_) rfl (l_ rfl (h_ k_ rfl rfl rfl o_) rfl (l_ rfl (m_ 2 x_ rfl rfl rfl) rfl (l_ rfl (f_ rfl) rfl (l_ rfl (h_ k_ rfl rfl rfl w_) rfl (l_ rfl (m_ 0 E_ rfl rfl rfl) rfl (l_ rfl (h_ k_ rfl rfl rfl w_) rfl (l_ rfl (m_ 0 E_ rfl rfl rfl) rfl ?_)))))))))
  refine H_ (P_ 9 rfl (by kernel_rfl) (S_ (es_ (Fc.a f) feat (Fc.lo gb) (Fc.hi gb)) rfl D_ (fun _ _ _ => by exact trivial) rfl fun _ => ?_))
  refine d_ (z_ rfl (F_ (fun _ a b => ⟨a, b⟩) (I_ 1 [10] (by kernel_rfl) (fun _ a b => ⟨a, b⟩) ?_)))
  refine bf_ rfl (af_ (p := gb) (q := (ap_ (Fc.a f) feat (Fc.lo gb) (Fc.hi gb))) rfl rfl) rfl fun r1 hr1 => ?_
  refine H_ (P_ 11 rfl (by kernel_rfl) (au_ (di_ r1) rfl D_ (fun _ _ _ => by exact trivial) rfl (fun hb => cw_ ((by rw [hb] at hr1; exact of_decide_eq_false hr1))) fun ⟨_, hn1⟩ => ?_))
  try dsimp only
  have hspn : gb = ap_ (Fc.a f) feat (Fc.lo gb) (Fc.hi gb) := of_decide_eq_true (hr1.trans hn1)
  refine d_ (z_ rfl (F_ (fun _ a b => ⟨a, b⟩) (R_ (by kernel_rfl) (b_ rfl (g_ (c_ (a_ (h_ k_ rfl rfl rfl w_) rfl (a_ (m_ 0 E_ rfl rfl rfl) rfl (a_ (h_ k_ rfl rfl rfl w_) rfl ?_)))))))))
  refine a_ (m_ 0 E_ rfl rfl rfl) rfl (a_ (ax_ fr_ rfl rfl) rfl (W_ 1 ah_ rfl rfl rfl rfl rfl rfl (d_ (b_ rfl (y_ ?_)))))
  refine cf_ ?_
  exact fI_ ⟨(), hspn⟩ (fun aa v h1 h2 => co_ (us := [_, _]) 1 Tryz.results183 cl_ ah_ rfl rfl rfl aa v h1 h2) D_ (fun _ _ _ => trivial)
end Go.Proofs.YtaffcjgphlhppaaGreatDoor
