/-
  Part of the proof of the law CheckerCounts over this seat: the small logic, the data, the contracts of functions (no condition).
-/
import Derived.Test.YtaffcjgphlhppaaGreatDoorQCheckerCounts7
set_option linter.unusedVariables false
set_option linter.unusedSimpArgs false
set_option linter.unusedSectionVars false
namespace Go.Proofs.YtaffcjgphlhppaaGreatDoor
open Go Go.Sx Go.Proofs
attribute [local irreducible] Code.wp wpList wpAnyH
open Go.Vs
theorem il_ : KeyT Tryz.prog 9 str := mX_ dh_
theorem gk_ {P : Program} {N : Nf} {fr : Fr} {H : Hp} {Γ : List Fct} {op : Op} {ty : TypeId} {kn : Str → Bool} {q : List Str} {k : Str} (hkn : ∀ s, kn s = true ↔ s ∈ q) {i : Decidable (k ∈ q)} (h : Yld P N fr H Γ op ty (.bool (@decide (k ∈ q) i))) : Yld P N fr H Γ op ty (.bool (kn k)) := by
  have e : @decide (k ∈ q) i = kn k := by rw [Bool.eq_iff_iff, hkn]; exact decide_eq_true_iff
  rwa [e] at h
def gJ_ : List Value := [.int .i64 0, .int .i64 0, .nilFunc, .int .i64 0, .int .i64 0, .func (.func 128) #[] #[], .int .i64 0, .int .i64 0, .func (.func 130) #[] #[], .int .i64 1, .int .i64 1, .func (.func 131) #[] #[], .int .i64 2, .int .i64 2, .func (.func 132) #[] #[], .int .i64 1, .int .i64 3, .func (.func 133) #[] #[], .int .i64 1, .int .i64 5, .func (.func 135) #[] #[], .int .i64 2, .int .i64 6, .func (.func 136) #[] #[], .int .i64 2, .int .i64 4, .func (.func 137) #[] #[], .int .i64 2, .int .i64 0, .func (.func 138) #[] #[], .int .i64 0, .int .i64 7, .func (.func 139) #[] #[], .int .i64 1, .int .i64 8, .func (.func 140) #[] #[], .int .i64 2, .int .i64 0, .func (.func 141) #[] #[], .int .i64 2, .int .i64 0, .func (.func 142) #[] #[], .int .i64 1, .int .i64 9, .func (.func 143) #[] #[], .int .i64 1, .int .i64 0, .func (.func 144) #[] #[], .int .i64 1, .int .i64 0, .func (.func 145) #[] #[]]
def cE_ (pv : Value) (ab : Nat) (fv : Value) : List Value := pv :: .map (some ab) :: fv :: gJ_
theorem kR_ : gw_ Tryz.prog 145 [(0, 1), (1, 6), (7, 1), (8, 10)] [.pointer none, .int .i64 0, str [], str [], str [], .int .i64 0, .int .i64 0, .slice none 0 0, .int .i64 0, str [], str [], str [], str [], str [], str [], .int .i64 0, .int .i64 0, .int .i64 0] := ⟨_, Tryz.zeroValue145, i_, fun w => by simp [k_, aF_, aj_, Tryz.sizeOf74]⟩
set_option maxHeartbeats 1000000 in
theorem om_ (kn : Str → Bool) (q : List Str) (hkn : ∀ s, kn s = true ↔ s ∈ q) (es : Array MapEntry) (ec : Nat) (hE : SetE str es q) (vb ab : Nat) (pv fv : Value) (x : Pc) (f : Fc) (lad : Option Addr) (lcap : Nat) : Tri Tryz.prog 128 #[.agg #[zp_ vb 0, .int .i64 (Fc.kind f), str (Fc.a f), str (Fc.b f), str (Fc.r f), .int .i64 (Fc.lo f), .int .i64 (Fc.hi f), .slice lad (List.length ([] : List Fc)) lcap, .int .i64 (Pc.kind x), str (Pc.a x), str (Pc.b x), str (Pc.c x), str (Pc.r x), str (Pc.s x), str (Pc.t x), .int .i64 (Pc.lo x), .int .i64 (Pc.hi x), .int .i64 (Pc.frm x)]] [] [bU_ vb (.cells (cE_ pv ab fv).toArray 83 (0, 0)), bU_ ab (.map es ec), aQ_ lad (List.flatMap Fc.cells ([] : List Fc))] (fun _ : Unit => .bool (ow_ kn x f zfc zfc)) (fun _ => []) (fun _ => []) := by
  refine T_ Tryz.func128 rfl rfl Tryz.ntmps128 rfl fun v0 => ?_
  refine g_ (c_ (aN_ rfl rfl fun b1 => ?_))
  refine a_ (e_ rfl) rfl (d_ (b_ rfl (g_ ?_)))
  refine aJ_ (by kernel_rfl) ?_
  refine M_ 12 [0, 1, 2, 3, 4, 5, 6, 7, 8, 9] (by kernel_rfl) (fun _ a b => ⟨a, b⟩) (j_ rfl (h_ i_ rfl rfl rfl Tryz.sizeOf74) rfl (j_ rfl (m_ 0 Tryz.isAgg74 rfl rfl rfl) rfl (j_ rfl (aY_ rfl) rfl (j_ rfl (h_ bb_ rfl rfl rfl oQ_) rfl (j_ rfl (cS_ Tryz.isAgg77 rfl (fun v _ h => by exact h.1) rfl) rfl (j_ rfl (h_ i_ rfl rfl rfl k_) rfl (j_ rfl (h_ o_ rfl rfl rfl w_) rfl (j_ rfl (m_ 0 F_ rfl rfl rfl) rfl ?_))))))))
  refine bo_ rfl (gk_ hkn (eS_ (k := (Fc.a f)) il_ dQ_ Tryz.zeroValue4 rfl rfl hE (fun v _ h => (by exact h.2.1 : (bU_ ab (.map es ec)).p v).2))) rfl fun r1 hr1 => ?_
  refine j_ rfl (f_ rfl) rfl (L_ ?_)
  cases r1
  · skip
    refine M_ 0 [10, 11, 12, 13, 14, 15, 16, 17, 18, 19, 20, 21] (by kernel_rfl) (fun _ a b => ⟨a, b⟩) (v_ rfl rfl rfl rfl rfl (v_ rfl rfl rfl rfl rfl (v_ rfl rfl rfl rfl rfl (v_ rfl rfl rfl rfl rfl (v_ rfl rfl rfl rfl rfl (v_ rfl rfl rfl rfl rfl (v_ rfl rfl rfl rfl rfl (v_ rfl rfl rfl rfl rfl (v_ rfl rfl rfl rfl rfl ?_)))))))))
    refine v_ rfl rfl rfl rfl rfl (j_ rfl (t_ rfl rfl) rfl (j_ rfl (e_ rfl) rfl (L_ (S_ (by kernel_rfl) (b_ rfl (u_ ?_))))))
    exact Y_ Tryz.results128 () (s_ rfl (by simp only [ow_, hr1, if_true, if_false, decide_true, decide_false, Bool.and_true, Bool.and_false, Bool.true_and, Bool.false_and, Bool.or_true, Bool.or_false, Bool.true_or, Bool.false_or, Bool.not_true, Bool.not_false, ne_eq, not_true_eq_false, not_false_eq_true, true_and, and_true, false_and, and_false, true_or, or_true, false_or, or_false, ite_true, ite_false, Bool.false_eq_true])) C_ (fun _ _ _ => trivial)
  · skip
    refine M_ 4 [10, 11, 12, 13, 14, 15, 16, 17] (by kernel_rfl) (fun _ a b => ⟨a, b⟩) (p_ rfl rfl rfl (h_ i_ rfl rfl rfl k_) rfl (p_ rfl rfl rfl (P_ 0 R_ k_ rfl rfl rfl) rfl (p_ rfl rfl rfl (h_ i_ rfl rfl rfl k_) rfl (p_ rfl rfl rfl (h_ o_ rfl rfl rfl w_) rfl (p_ rfl rfl rfl (m_ 0 F_ rfl rfl rfl) rfl (p_ rfl rfl rfl (h_ i_ rfl rfl rfl k_) rfl (p_ rfl rfl rfl (h_ o_ rfl rfl rfl w_) rfl (p_ rfl rfl rfl (m_ 0 F_ rfl rfl rfl) rfl (L_ ?_)))))))))
    refine I_ 18 rfl (by kernel_rfl) (l_ rfl rfl (Q_ (bw_ (Fc.a f) (Fc.a f)) rfl C_ (fun _ _ _ => by exact trivial) rfl fun _ => ?_))
    refine d_ (q_ rfl (A_ (fun _ a b => ⟨a, b⟩) (M_ 0 [19, 20, 21] (by kernel_rfl) (fun _ a b => ⟨a, b⟩) ?_)))
    refine at_ rfl rfl rfl (aq_ (p := f) (q := (aE_ (Fc.a f) (Fc.a f))) rfl rfl) rfl fun r2 hr2 => ?_
    refine j_ rfl (B_ rfl rfl) rfl (j_ rfl (e_ rfl) rfl (L_ (S_ (by kernel_rfl) (b_ rfl (u_ ?_)))))
    exact Y_ Tryz.results128 () (s_ rfl (by rw [← hr2]; simp only [ow_, hr1, if_true, if_false, decide_true, decide_false, Bool.and_true, Bool.and_false, Bool.true_and, Bool.false_and, Bool.or_true, Bool.or_false, Bool.true_or, Bool.false_or, Bool.not_true, Bool.not_false, ne_eq, not_true_eq_false, not_false_eq_true, true_and, and_true, false_and, and_false, true_or, or_true, false_or, or_false, ite_true, ite_false, Bool.false_eq_true])) C_ (fun _ _ _ => trivial)
set_option maxHeartbeats 1000000 in
theorem ol_ (kn : Str → Bool) (q : List Str) (hkn : ∀ s, kn s = true ↔ s ∈ q) (es : Array MapEntry) (ec : Nat) (hE : SetE str es q) (vb ab : Nat) (pv fv : Value) (x : Pc) (f : Fc) (lad : Option Addr) (lcap : Nat) : Tri Tryz.prog 130 #[.agg #[zp_ vb 0, .int .i64 (Fc.kind f), str (Fc.a f), str (Fc.b f), str (Fc.r f), .int .i64 (Fc.lo f), .int .i64 (Fc.hi f), .slice lad (List.length ([] : List Fc)) lcap, .int .i64 (Pc.kind x), str (Pc.a x), str (Pc.b x), str (Pc.c x), str (Pc.r x), str (Pc.s x), str (Pc.t x), .int .i64 (Pc.lo x), .int .i64 (Pc.hi x), .int .i64 (Pc.frm x)]] [] [bU_ vb (.cells (cE_ pv ab fv).toArray 83 (0, 0)), bU_ ab (.map es ec), aQ_ lad (List.flatMap Fc.cells ([] : List Fc))] (fun _ : Unit => .bool (ov_ kn x f zfc zfc)) (fun _ => []) (fun _ => []) := by
  refine T_ Tryz.func130 rfl rfl Tryz.ntmps130 rfl fun v0 => ?_
  refine g_ (c_ (aN_ rfl rfl fun b1 => ?_))
  refine a_ (e_ rfl) rfl (d_ (b_ rfl (g_ ?_)))
  refine aJ_ (by kernel_rfl) ?_
  refine M_ 9 [0, 1, 2, 3, 4, 5, 6, 7, 8, 9] (by kernel_rfl) (fun _ a b => ⟨a, b⟩) (j_ rfl (h_ i_ rfl rfl rfl Tryz.sizeOf74) rfl (j_ rfl (m_ 0 Tryz.isAgg74 rfl rfl rfl) rfl (j_ rfl (aY_ rfl) rfl (j_ rfl (h_ bb_ rfl rfl rfl oQ_) rfl (j_ rfl (cS_ Tryz.isAgg77 rfl (fun v _ h => by exact h.1) rfl) rfl (j_ rfl (h_ i_ rfl rfl rfl k_) rfl (j_ rfl (h_ o_ rfl rfl rfl w_) rfl (j_ rfl (m_ 0 F_ rfl rfl rfl) rfl ?_))))))))
  refine bo_ rfl (gk_ hkn (eS_ (k := (Fc.a f)) il_ dQ_ Tryz.zeroValue4 rfl rfl hE (fun v _ h => (by exact h.2.1 : (bU_ ab (.map es ec)).p v).2))) rfl fun r1 hr1 => ?_
  refine j_ rfl (f_ rfl) rfl (L_ ?_)
  cases r1
  · skip
    refine M_ 0 [10, 11, 12, 13, 14, 15, 16, 17, 18] (by kernel_rfl) (fun _ a b => ⟨a, b⟩) (v_ rfl rfl rfl rfl rfl (v_ rfl rfl rfl rfl rfl (v_ rfl rfl rfl rfl rfl (v_ rfl rfl rfl rfl rfl (v_ rfl rfl rfl rfl rfl (v_ rfl rfl rfl rfl rfl (v_ rfl rfl rfl rfl rfl (j_ rfl (t_ rfl rfl) rfl (j_ rfl (e_ rfl) rfl ?_)))))))))
    refine L_ (S_ (by kernel_rfl) (b_ rfl (u_ ?_)))
    exact Y_ Tryz.results130 () (s_ rfl (by simp only [ov_, hr1, if_true, if_false, decide_true, decide_false, Bool.and_true, Bool.and_false, Bool.true_and, Bool.false_and, Bool.or_true, Bool.or_false, Bool.true_or, Bool.false_or, Bool.not_true, Bool.not_false, ne_eq, not_true_eq_false, not_false_eq_true, true_and, and_true, false_and, and_false, true_or, or_true, false_or, or_false, ite_true, ite_false, Bool.false_eq_true])) C_ (fun _ _ _ => trivial)
  · skip
    refine M_ 4 [10, 11, 12, 13, 14] (by kernel_rfl) (fun _ a b => ⟨a, b⟩) (p_ rfl rfl rfl (h_ i_ rfl rfl rfl k_) rfl (p_ rfl rfl rfl (P_ 0 R_ k_ rfl rfl rfl) rfl (p_ rfl rfl rfl (h_ i_ rfl rfl rfl k_) rfl (p_ rfl rfl rfl (h_ o_ rfl rfl rfl w_) rfl (p_ rfl rfl rfl (m_ 0 F_ rfl rfl rfl) rfl (L_ (I_ 15 rfl (by kernel_rfl) (l_ rfl rfl (Q_ (bw_ (Fc.a f) [42]) rfl C_ (fun _ _ _ => by exact trivial) rfl fun _ => ?_)))))))))
    refine d_ (q_ rfl (A_ (fun _ a b => ⟨a, b⟩) (M_ 0 [16, 17, 18] (by kernel_rfl) (fun _ a b => ⟨a, b⟩) ?_)))
    refine at_ rfl rfl rfl (aq_ (p := f) (q := (aE_ (Fc.a f) [42])) rfl rfl) rfl fun r2 hr2 => ?_
    refine j_ rfl (B_ rfl rfl) rfl (j_ rfl (e_ rfl) rfl (L_ (S_ (by kernel_rfl) (b_ rfl (u_ ?_)))))
    exact Y_ Tryz.results130 () (s_ rfl (by rw [← hr2]; simp only [ov_, hr1, if_true, if_false, decide_true, decide_false, Bool.and_true, Bool.and_false, Bool.true_and, Bool.false_and, Bool.or_true, Bool.or_false, Bool.true_or, Bool.false_or, Bool.not_true, Bool.not_false, ne_eq, not_true_eq_false, not_false_eq_true, true_and, and_true, false_and, and_false, true_or, or_true, false_or, or_false, ite_true, ite_false, Bool.false_eq_true])) C_ (fun _ _ _ => trivial)
set_option maxHeartbeats 1000000 in
theorem ok_ (kn : Str → Bool) (q : List Str) (hkn : ∀ s, kn s = true ↔ s ∈ q) (es : Array MapEntry) (ec : Nat) (hE : SetE str es q) (vb ab : Nat) (pv fv : Value) (x : Pc) (f ga : Fc) (lad : Option Addr) (lcap : Nat) : Tri Tryz.prog 131 #[.agg #[zp_ vb 0, .int .i64 (Fc.kind f), str (Fc.a f), str (Fc.b f), str (Fc.r f), .int .i64 (Fc.lo f), .int .i64 (Fc.hi f), .slice lad (List.length [ga]) lcap, .int .i64 (Pc.kind x), str (Pc.a x), str (Pc.b x), str (Pc.c x), str (Pc.r x), str (Pc.s x), str (Pc.t x), .int .i64 (Pc.lo x), .int .i64 (Pc.hi x), .int .i64 (Pc.frm x)]] [] [bU_ vb (.cells (cE_ pv ab fv).toArray 83 (0, 0)), bU_ ab (.map es ec), aQ_ lad (List.flatMap Fc.cells [ga])] (fun _ : Unit => .bool (ou_ kn x f ga zfc)) (fun _ => []) (fun _ => []) := by
  refine T_ Tryz.func131 rfl rfl Tryz.ntmps131 rfl fun v0 => ?_
  refine g_ (c_ (aN_ rfl rfl fun b1 => ?_))
  refine a_ (e_ rfl) rfl (d_ (b_ rfl (g_ ?_)))
  refine aJ_ (by kernel_rfl) ?_
  refine M_ 15 [0, 1, 2, 3, 4, 5, 6, 7, 8, 9] (by kernel_rfl) (fun _ a b => ⟨a, b⟩) (j_ rfl (h_ i_ rfl rfl rfl aF_) rfl (j_ rfl (m_ 0 bc_ rfl rfl rfl) rfl (j_ rfl (ah_ ag_ k_ rfl rfl (fun v _ h => aM_ (n := 6) Fc.cells_len (by decide) (by exact h.2.2.1) (show [ga][0]? = some _ from rfl)) (by omega) (by first | omega | (simp; done))) rfl (j_ rfl (aK_ (ad := lad) (us := Fc.cells ga) R_ k_ rfl (fun v _ h => by exact h.2.2.1) (Fc.cells_len _) (ak_ Fc.cells_len (show [ga][0]? = some _ from rfl))) rfl (j_ rfl (h_ i_ rfl rfl rfl k_) rfl (j_ rfl (h_ o_ rfl rfl rfl w_) rfl (j_ rfl (m_ 0 F_ rfl rfl rfl) rfl (j_ rfl (h_ i_ rfl rfl rfl aj_) rfl (j_ rfl (h_ O_ rfl rfl rfl w_) rfl ?_)))))))))
  refine j_ rfl (m_ 0 F_ rfl rfl rfl) rfl (L_ (I_ 10 rfl (by kernel_rfl) (Q_ (bw_ (Fc.a f) (Pc.a x)) rfl C_ (fun _ _ _ => by exact trivial) rfl fun _ => ?_)))
  refine d_ (q_ rfl (A_ (fun _ a b => ⟨a, b⟩) (M_ 12 [11, 12] (by kernel_rfl) (fun _ a b => ⟨a, b⟩) ?_)))
  refine bo_ rfl (aq_ (p := ga) (q := (aE_ (Fc.a f) (Pc.a x))) rfl rfl) rfl fun r1 hr1 => ?_
  refine j_ rfl (f_ rfl) rfl (L_ ?_)
  cases r1
  · skip
    replace hr1 := of_decide_eq_false hr1
    refine M_ 0 [13, 14, 15, 16, 17, 18, 19, 20, 21, 22, 23, 24] (by kernel_rfl) (fun _ a b => ⟨a, b⟩) (v_ rfl rfl rfl rfl rfl (v_ rfl rfl rfl rfl rfl (v_ rfl rfl rfl rfl rfl (v_ rfl rfl rfl rfl rfl (v_ rfl rfl rfl rfl rfl (v_ rfl rfl rfl rfl rfl (v_ rfl rfl rfl rfl rfl (v_ rfl rfl rfl rfl rfl (v_ rfl rfl rfl rfl rfl ?_)))))))))
    refine v_ rfl rfl rfl rfl rfl (j_ rfl (t_ rfl rfl) rfl (j_ rfl (e_ rfl) rfl (L_ (S_ (by kernel_rfl) (b_ rfl (u_ ?_))))))
    exact Y_ Tryz.results131 () (s_ rfl (by have p1 := eq_false hr1; simp only [ou_, p1, if_true, if_false, decide_true, decide_false, Bool.and_true, Bool.and_false, Bool.true_and, Bool.false_and, Bool.or_true, Bool.or_false, Bool.true_or, Bool.false_or, Bool.not_true, Bool.not_false, ne_eq, not_true_eq_false, not_false_eq_true, true_and, and_true, false_and, and_false, true_or, or_true, false_or, or_false, ite_true, ite_false, Bool.false_eq_true])) C_ (fun _ _ _ => trivial)
  · skip
    replace hr1 := of_decide_eq_true hr1
    refine M_ 4 [13, 14, 15, 16, 17, 18, 19, 20] (by kernel_rfl) (fun _ a b => ⟨a, b⟩) (p_ rfl rfl rfl (h_ i_ rfl rfl rfl k_) rfl (p_ rfl rfl rfl (P_ 0 R_ k_ rfl rfl rfl) rfl (p_ rfl rfl rfl (h_ i_ rfl rfl rfl k_) rfl (p_ rfl rfl rfl (h_ o_ rfl rfl rfl w_) rfl (p_ rfl rfl rfl (m_ 0 F_ rfl rfl rfl) rfl (p_ rfl rfl rfl (h_ i_ rfl rfl rfl aj_) rfl (p_ rfl rfl rfl (h_ O_ rfl rfl rfl w_) rfl (p_ rfl rfl rfl (m_ 0 F_ rfl rfl rfl) rfl (L_ ?_)))))))))
    refine I_ 21 rfl (by kernel_rfl) (l_ rfl rfl (Q_ (bw_ (Fc.a f) (Pc.c x)) rfl C_ (fun _ _ _ => by exact trivial) rfl fun _ => ?_))
    refine d_ (q_ rfl (A_ (fun _ a b => ⟨a, b⟩) (M_ 0 [22, 23, 24] (by kernel_rfl) (fun _ a b => ⟨a, b⟩) ?_)))
    refine at_ rfl rfl rfl (aq_ (p := f) (q := (aE_ (Fc.a f) (Pc.c x))) rfl rfl) rfl fun r2 hr2 => ?_
    refine j_ rfl (B_ rfl rfl) rfl (j_ rfl (e_ rfl) rfl (L_ (S_ (by kernel_rfl) (b_ rfl (u_ ?_)))))
    exact Y_ Tryz.results131 () (s_ rfl (by have p1 := eq_true hr1; rw [← hr2]; simp only [ou_, p1, if_true, if_false, decide_true, decide_false, Bool.and_true, Bool.and_false, Bool.true_and, Bool.false_and, Bool.or_true, Bool.or_false, Bool.true_or, Bool.false_or, Bool.not_true, Bool.not_false, ne_eq, not_true_eq_false, not_false_eq_true, true_and, and_true, false_and, and_false, true_or, or_true, false_or, or_false, ite_true, ite_false, Bool.false_eq_true])) C_ (fun _ _ _ => trivial)
set_option maxHeartbeats 1000000 in
theorem oj_ (kn : Str → Bool) (q : List Str) (hkn : ∀ s, kn s = true ↔ s ∈ q) (es : Array MapEntry) (ec : Nat) (hE : SetE str es q) (vb ab : Nat) (pv fv : Value) (x : Pc) (f ga gb : Fc) (lad : Option Addr) (lcap : Nat) : Tri Tryz.prog 132 #[.agg #[zp_ vb 0, .int .i64 (Fc.kind f), str (Fc.a f), str (Fc.b f), str (Fc.r f), .int .i64 (Fc.lo f), .int .i64 (Fc.hi f), .slice lad (List.length [ga, gb]) lcap, .int .i64 (Pc.kind x), str (Pc.a x), str (Pc.b x), str (Pc.c x), str (Pc.r x), str (Pc.s x), str (Pc.t x), .int .i64 (Pc.lo x), .int .i64 (Pc.hi x), .int .i64 (Pc.frm x)]] [] [bU_ vb (.cells (cE_ pv ab fv).toArray 83 (0, 0)), bU_ ab (.map es ec), aQ_ lad (List.flatMap Fc.cells [ga, gb])] (fun _ : Unit => .bool (ne_ kn x f ga gb)) (fun _ => []) (fun _ => []) := by
 refine T_ Tryz.func132 rfl rfl Tryz.ntmps132 rfl fun v0 => ?_
 refine g_ (c_ (aN_ rfl rfl fun b1 => ?_))
 refine a_ (e_ rfl) rfl (d_ (b_ rfl (g_ ?_)))
 refine aJ_ (by kernel_rfl) ?_
 refine M_ 29 [0, 1, 2, 3, 4, 5, 6, 7, 8, 9] (by kernel_rfl) (fun _ a b => ⟨a, b⟩) (j_ rfl (h_ i_ rfl rfl rfl aF_) rfl (j_ rfl (m_ 0 bc_ rfl rfl rfl) rfl (j_ rfl (ah_ ag_ k_ rfl rfl (fun v _ h => aM_ (n := 6) Fc.cells_len (by decide) (by exact h.2.2.1) (show [ga, gb][0]? = some _ from rfl)) (by omega) (by first | omega | (simp; done))) rfl (j_ rfl (aK_ (ad := lad) (us := Fc.cells ga) R_ k_ rfl (fun v _ h => by exact h.2.2.1) (Fc.cells_len _) (ak_ Fc.cells_len (show [ga, gb][0]? = some _ from rfl))) rfl (j_ rfl (h_ i_ rfl rfl rfl k_) rfl (j_ rfl (h_ o_ rfl rfl rfl w_) rfl (j_ rfl (m_ 0 F_ rfl rfl rfl) rfl (j_ rfl (h_ i_ rfl rfl rfl aj_) rfl (j_ rfl (h_ O_ rfl rfl rfl w_) rfl ?_)))))))))
 refine j_ rfl (m_ 0 F_ rfl rfl rfl) rfl (L_ (I_ 10 rfl (by kernel_rfl) (Q_ (bw_ (Fc.a f) (Pc.a x)) rfl C_ (fun _ _ _ => by exact trivial) rfl fun _ => ?_)))
 refine d_ (q_ rfl (A_ (fun _ a b => ⟨a, b⟩) (M_ 26 [11, 12] (by kernel_rfl) (fun _ a b => ⟨a, b⟩) ?_)))
 refine bo_ rfl (aq_ (p := ga) (q := (aE_ (Fc.a f) (Pc.a x))) rfl rfl) rfl fun r1 hr1 => ?_
 refine j_ rfl (f_ rfl) rfl (L_ ?_)
 cases r1
 ·
  replace hr1 := of_decide_eq_false hr1
  refine M_ 0 [13, 14, 15, 16, 17, 18, 19, 20, 21, 22, 23, 24, 25, 26, 27, 28, 29, 30, 31, 32, 33, 34, 35, 36, 37, 38] (by kernel_rfl) (fun _ a b => ⟨a, b⟩) (v_ rfl rfl rfl rfl rfl (v_ rfl rfl rfl rfl rfl (v_ rfl rfl rfl rfl rfl (v_ rfl rfl rfl rfl rfl (v_ rfl rfl rfl rfl rfl (v_ rfl rfl rfl rfl rfl (v_ rfl rfl rfl rfl rfl (v_ rfl rfl rfl rfl rfl (v_ rfl rfl rfl rfl rfl ?_)))))))))
  refine v_ rfl rfl rfl rfl rfl (v_ rfl rfl rfl rfl rfl (v_ rfl rfl rfl rfl rfl (j_ rfl (t_ rfl rfl) rfl (j_ rfl (f_ rfl) rfl (v_ rfl rfl rfl rfl rfl (v_ rfl rfl rfl rfl rfl (v_ rfl rfl rfl rfl rfl (v_ rfl rfl rfl rfl rfl (v_ rfl rfl rfl rfl rfl ?_)))))))))
  refine v_ rfl rfl rfl rfl rfl (v_ rfl rfl rfl rfl rfl (v_ rfl rfl rfl rfl rfl (v_ rfl rfl rfl rfl rfl (v_ rfl rfl rfl rfl rfl (j_ rfl (t_ rfl rfl) rfl (j_ rfl (e_ rfl) rfl (L_ (S_ (by kernel_rfl) (b_ rfl ?_)))))))))
  refine u_ ?_
  exact Y_ Tryz.results132 () (s_ rfl (by have p1 := eq_false hr1; simp only [ne_, p1, if_true, if_false, decide_true, decide_false, Bool.and_true, Bool.and_false, Bool.true_and, Bool.false_and, Bool.or_true, Bool.or_false, Bool.true_or, Bool.false_or, Bool.not_true, Bool.not_false, ne_eq, not_true_eq_false, not_false_eq_true, true_and, and_true, false_and, and_false, true_or, or_true, false_or, or_false, ite_true, ite_false, Bool.false_eq_true])) C_ (fun _ _ _ => trivial)
 ·
  replace hr1 := of_decide_eq_true hr1
  refine M_ 16 [13, 14, 15, 16, 17, 18, 19, 20, 21, 22] (by kernel_rfl) (fun _ a b => ⟨a, b⟩) (p_ rfl rfl rfl (h_ i_ rfl rfl rfl aF_) rfl (p_ rfl rfl rfl (m_ 0 bc_ rfl rfl rfl) rfl (p_ rfl rfl rfl (ah_ ag_ k_ rfl rfl (fun v _ h => aM_ (n := 6) Fc.cells_len (by decide) (by exact h.2.2.1) (show [ga, gb][1]? = some _ from rfl)) (by omega) (by first | omega | (simp; done))) rfl (p_ rfl rfl rfl (aK_ (ad := lad) (us := Fc.cells gb) R_ k_ rfl (fun v _ h => by exact h.2.2.1) (Fc.cells_len _) (ak_ Fc.cells_len (show [ga, gb][1]? = some _ from rfl))) rfl (p_ rfl rfl rfl (h_ i_ rfl rfl rfl k_) rfl (p_ rfl rfl rfl (h_ o_ rfl rfl rfl w_) rfl (p_ rfl rfl rfl (m_ 0 F_ rfl rfl rfl) rfl (p_ rfl rfl rfl (h_ i_ rfl rfl rfl aj_) rfl (p_ rfl rfl rfl (h_ O_ rfl rfl rfl w_) rfl ?_)))))))))
  refine p_ rfl rfl rfl (m_ 0 F_ rfl rfl rfl) rfl (L_ (I_ 23 rfl (by kernel_rfl) (l_ rfl rfl (Q_ (bw_ (Fc.a f) (Pc.b x)) rfl C_ (fun _ _ _ => by exact trivial) rfl fun _ => ?_))))
  refine d_ (q_ rfl (A_ (fun _ a b => ⟨a, b⟩) (M_ 12 [24, 25, 26] (by kernel_rfl) (fun _ a b => ⟨a, b⟩) ?_)))
  refine at_ rfl rfl rfl (aq_ (p := gb) (q := (aE_ (Fc.a f) (Pc.b x))) rfl rfl) rfl fun r2 hr2 => ?_
  refine j_ rfl (B_ rfl rfl) rfl (j_ rfl (f_ rfl) rfl (L_ ?_))
  cases r2
  ·
   replace hr2 := of_decide_eq_false hr2
   refine M_ 0 [27, 28, 29, 30, 31, 32, 33, 34, 35, 36, 37, 38] (by kernel_rfl) (fun _ a b => ⟨a, b⟩) (v_ rfl rfl rfl rfl rfl (v_ rfl rfl rfl rfl rfl (v_ rfl rfl rfl rfl rfl (v_ rfl rfl rfl rfl rfl (v_ rfl rfl rfl rfl rfl (v_ rfl rfl rfl rfl rfl (v_ rfl rfl rfl rfl rfl (v_ rfl rfl rfl rfl rfl (v_ rfl rfl rfl rfl rfl ?_)))))))))
   refine v_ rfl rfl rfl rfl rfl (j_ rfl (t_ rfl rfl) rfl (j_ rfl (e_ rfl) rfl (L_ (S_ (by kernel_rfl) (b_ rfl (u_ ?_))))))
   exact Y_ Tryz.results132 () (s_ rfl (by have p1 := eq_true hr1; have p2 := eq_false hr2; simp only [ne_, p1, p2, if_true, if_false, decide_true, decide_false, Bool.and_true, Bool.and_false, Bool.true_and, Bool.false_and, Bool.or_true, Bool.or_false, Bool.true_or, Bool.false_or, Bool.not_true, Bool.not_false, ne_eq, not_true_eq_false, not_false_eq_true, true_and, and_true, false_and, and_false, true_or, or_true, false_or, or_false, ite_true, ite_false, Bool.false_eq_true])) C_ (fun _ _ _ => trivial)
  ·
   replace hr2 := of_decide_eq_true hr2
   refine M_ 4 [27, 28, 29, 30, 31, 32, 33, 34] (by kernel_rfl) (fun _ a b => ⟨a, b⟩) (p_ rfl rfl rfl (h_ i_ rfl rfl rfl k_) rfl (p_ rfl rfl rfl (P_ 0 R_ k_ rfl rfl rfl) rfl (p_ rfl rfl rfl (h_ i_ rfl rfl rfl k_) rfl (p_ rfl rfl rfl (h_ o_ rfl rfl rfl w_) rfl (p_ rfl rfl rfl (m_ 0 F_ rfl rfl rfl) rfl (p_ rfl rfl rfl (h_ i_ rfl rfl rfl aj_) rfl (p_ rfl rfl rfl (h_ O_ rfl rfl rfl w_) rfl (p_ rfl rfl rfl (m_ 0 F_ rfl rfl rfl) rfl (L_ ?_)))))))))
   refine I_ 35 rfl (by kernel_rfl) (l_ rfl rfl (Q_ (bw_ (Fc.a f) (Pc.c x)) rfl C_ (fun _ _ _ => by exact trivial) rfl fun _ => ?_))
   refine d_ (q_ rfl (A_ (fun _ a b => ⟨a, b⟩) (M_ 0 [36, 37, 38] (by kernel_rfl) (fun _ a b => ⟨a, b⟩) ?_)))
   refine at_ rfl rfl rfl (aq_ (p := f) (q := (aE_ (Fc.a f) (Pc.c x))) rfl rfl) rfl fun r3 hr3 => ?_
   refine j_ rfl (B_ rfl rfl) rfl (j_ rfl (e_ rfl) rfl (L_ (S_ (by kernel_rfl) (b_ rfl (u_ ?_)))))
   exact Y_ Tryz.results132 () (s_ rfl (by have p1 := eq_true hr1; have p2 := eq_true hr2; rw [← hr3]; simp only [ne_, p1, p2, if_true, if_false, decide_true, decide_false, Bool.and_true, Bool.and_false, Bool.true_and, Bool.false_and, Bool.or_true, Bool.or_false, Bool.true_or, Bool.false_or, Bool.not_true, Bool.not_false, ne_eq, not_true_eq_false, not_false_eq_true, true_and, and_true, false_and, and_false, true_or, or_true, false_or, or_false, ite_true, ite_false, Bool.false_eq_true])) C_ (fun _ _ _ => trivial)
set_option maxHeartbeats 1000000 in
theorem oi_ (kn : Str → Bool) (q : List Str) (hkn : ∀ s, kn s = true ↔ s ∈ q) (es : Array MapEntry) (ec : Nat) (hE : SetE str es q) (vb ab : Nat) (pv fv : Value) (x : Pc) (f ga : Fc) (lad : Option Addr) (lcap : Nat) : Tri Tryz.prog 133 #[.agg #[zp_ vb 0, .int .i64 (Fc.kind f), str (Fc.a f), str (Fc.b f), str (Fc.r f), .int .i64 (Fc.lo f), .int .i64 (Fc.hi f), .slice lad (List.length [ga]) lcap, .int .i64 (Pc.kind x), str (Pc.a x), str (Pc.b x), str (Pc.c x), str (Pc.r x), str (Pc.s x), str (Pc.t x), .int .i64 (Pc.lo x), .int .i64 (Pc.hi x), .int .i64 (Pc.frm x)]] [] [bU_ vb (.cells (cE_ pv ab fv).toArray 83 (0, 0)), bU_ ab (.map es ec), aQ_ lad (List.flatMap Fc.cells [ga])] (fun _ : Unit => .bool (ot_ kn x f ga zfc)) (fun _ => []) (fun _ => []) := by
  refine T_ Tryz.func133 rfl rfl Tryz.ntmps133 rfl fun v0 => ?_
  refine g_ (c_ (aN_ rfl rfl fun b1 => ?_))
  refine a_ (e_ rfl) rfl (d_ (b_ rfl (g_ ?_)))
  refine aJ_ (by kernel_rfl) ?_
  refine M_ 18 [0, 1, 2, 3, 4, 5, 6, 7, 8, 9] (by kernel_rfl) (fun _ a b => ⟨a, b⟩) (j_ rfl (h_ i_ rfl rfl rfl aF_) rfl (j_ rfl (m_ 0 bc_ rfl rfl rfl) rfl (j_ rfl (ah_ ag_ k_ rfl rfl (fun v _ h => aM_ (n := 6) Fc.cells_len (by decide) (by exact h.2.2.1) (show [ga][0]? = some _ from rfl)) (by omega) (by first | omega | (simp; done))) rfl (j_ rfl (aK_ (ad := lad) (us := Fc.cells ga) R_ k_ rfl (fun v _ h => by exact h.2.2.1) (Fc.cells_len _) (ak_ Fc.cells_len (show [ga][0]? = some _ from rfl))) rfl (j_ rfl (h_ i_ rfl rfl rfl k_) rfl (j_ rfl (h_ o_ rfl rfl rfl w_) rfl (j_ rfl (m_ 0 F_ rfl rfl rfl) rfl (j_ rfl (h_ i_ rfl rfl rfl aj_) rfl (j_ rfl (h_ O_ rfl rfl rfl w_) rfl ?_)))))))))
  refine j_ rfl (m_ 0 F_ rfl rfl rfl) rfl (L_ (I_ 10 rfl (by kernel_rfl) (Q_ (bw_ (Fc.a f) (Pc.a x)) rfl C_ (fun _ _ _ => by exact trivial) rfl fun _ => ?_)))
  refine d_ (q_ rfl (A_ (fun _ a b => ⟨a, b⟩) (M_ 15 [11, 12] (by kernel_rfl) (fun _ a b => ⟨a, b⟩) ?_)))
  refine bo_ rfl (aq_ (p := ga) (q := (aE_ (Fc.a f) (Pc.a x))) rfl rfl) rfl fun r1 hr1 => ?_
  refine j_ rfl (f_ rfl) rfl (L_ ?_)
  cases r1
  · skip
    replace hr1 := of_decide_eq_false hr1
    refine M_ 0 [13, 14, 15, 16, 17, 18, 19, 20, 21, 22, 23, 24, 25, 26, 27] (by kernel_rfl) (fun _ a b => ⟨a, b⟩) (v_ rfl rfl rfl rfl rfl (v_ rfl rfl rfl rfl rfl (v_ rfl rfl rfl rfl rfl (v_ rfl rfl rfl rfl rfl (v_ rfl rfl rfl rfl rfl (v_ rfl rfl rfl rfl rfl (v_ rfl rfl rfl rfl rfl (v_ rfl rfl rfl rfl rfl (v_ rfl rfl rfl rfl rfl ?_)))))))))
    refine v_ rfl rfl rfl rfl rfl (v_ rfl rfl rfl rfl rfl (v_ rfl rfl rfl rfl rfl (v_ rfl rfl rfl rfl rfl (j_ rfl (t_ rfl rfl) rfl (j_ rfl (e_ rfl) rfl (L_ (S_ (by kernel_rfl) (b_ rfl (u_ ?_)))))))))
    exact Y_ Tryz.results133 () (s_ rfl (by have p1 := eq_false hr1; simp only [ot_, p1, if_true, if_false, decide_true, decide_false, Bool.and_true, Bool.and_false, Bool.true_and, Bool.false_and, Bool.or_true, Bool.or_false, Bool.true_or, Bool.false_or, Bool.not_true, Bool.not_false, ne_eq, not_true_eq_false, not_false_eq_true, true_and, and_true, false_and, and_false, true_or, or_true, false_or, or_false, ite_true, ite_false, Bool.false_eq_true])) C_ (fun _ _ _ => trivial)
  · skip
    replace hr1 := of_decide_eq_true hr1
    refine M_ 4 [13, 14, 15, 16, 17, 18, 19, 20, 21, 22, 23] (by kernel_rfl) (fun _ a b => ⟨a, b⟩) (p_ rfl rfl rfl (h_ i_ rfl rfl rfl k_) rfl (p_ rfl rfl rfl (P_ 0 R_ k_ rfl rfl rfl) rfl (p_ rfl rfl rfl (h_ i_ rfl rfl rfl k_) rfl (p_ rfl rfl rfl (h_ o_ rfl rfl rfl w_) rfl (p_ rfl rfl rfl (m_ 0 F_ rfl rfl rfl) rfl (p_ rfl rfl rfl (h_ i_ rfl rfl rfl aj_) rfl (p_ rfl rfl rfl (h_ O_ rfl rfl rfl w_) rfl (p_ rfl rfl rfl (m_ 0 F_ rfl rfl rfl) rfl (p_ rfl rfl rfl (h_ i_ rfl rfl rfl aj_) rfl ?_)))))))))
    refine p_ rfl rfl rfl (h_ O_ rfl rfl rfl w_) rfl (p_ rfl rfl rfl (m_ 0 F_ rfl rfl rfl) rfl (L_ (I_ 24 rfl (by kernel_rfl) (l_ rfl rfl (Q_ (dw_ (Fc.a f) (Pc.r x) (Pc.c x)) rfl C_ (fun _ _ _ => by exact trivial) rfl fun _ => ?_)))))
    refine d_ (q_ rfl (A_ (fun _ a b => ⟨a, b⟩) (M_ 0 [25, 26, 27] (by kernel_rfl) (fun _ a b => ⟨a, b⟩) ?_)))
    refine at_ rfl rfl rfl (aq_ (p := f) (q := (bq_ (Fc.a f) (Pc.r x) (Pc.c x))) rfl rfl) rfl fun r2 hr2 => ?_
    refine j_ rfl (B_ rfl rfl) rfl (j_ rfl (e_ rfl) rfl (L_ (S_ (by kernel_rfl) (b_ rfl (u_ ?_)))))
    exact Y_ Tryz.results133 () (s_ rfl (by have p1 := eq_true hr1; rw [← hr2]; simp only [ot_, p1, if_true, if_false, decide_true, decide_false, Bool.and_true, Bool.and_false, Bool.true_and, Bool.false_and, Bool.or_true, Bool.or_false, Bool.true_or, Bool.false_or, Bool.not_true, Bool.not_false, ne_eq, not_true_eq_false, not_false_eq_true, true_and, and_true, false_and, and_false, true_or, or_true, false_or, or_false, ite_true, ite_false, Bool.false_eq_true])) C_ (fun _ _ _ => trivial)
set_option maxHeartbeats 1000000 in
theorem oh_ (kn : Str → Bool) (q : List Str) (hkn : ∀ s, kn s = true ↔ s ∈ q) (es : Array MapEntry) (ec : Nat) (hE : SetE str es q) (vb ab : Nat) (pv fv : Value) (x : Pc) (f ga : Fc) (lad : Option Addr) (lcap : Nat) : Tri Tryz.prog 135 #[.agg #[zp_ vb 0, .int .i64 (Fc.kind f), str (Fc.a f), str (Fc.b f), str (Fc.r f), .int .i64 (Fc.lo f), .int .i64 (Fc.hi f), .slice lad (List.length [ga]) lcap, .int .i64 (Pc.kind x), str (Pc.a x), str (Pc.b x), str (Pc.c x), str (Pc.r x), str (Pc.s x), str (Pc.t x), .int .i64 (Pc.lo x), .int .i64 (Pc.hi x), .int .i64 (Pc.frm x)]] [] [bU_ vb (.cells (cE_ pv ab fv).toArray 83 (0, 0)), bU_ ab (.map es ec), aQ_ lad (List.flatMap Fc.cells [ga])] (fun _ : Unit => .bool (os_ kn x f ga zfc)) (fun _ => []) (fun _ => []) := by
  refine T_ Tryz.func135 rfl rfl Tryz.ntmps135 rfl fun v0 => ?_
  refine g_ (c_ (aN_ rfl rfl fun b1 => ?_))
  refine a_ (e_ rfl) rfl (d_ (b_ rfl (g_ ?_)))
  refine aJ_ (by kernel_rfl) ?_
  refine M_ 18 [0, 1, 2, 3, 4, 5, 6, 7, 8, 9, 10, 11, 12] (by kernel_rfl) (fun _ a b => ⟨a, b⟩) (j_ rfl (h_ i_ rfl rfl rfl aF_) rfl (j_ rfl (m_ 0 bc_ rfl rfl rfl) rfl (j_ rfl (ah_ ag_ k_ rfl rfl (fun v _ h => aM_ (n := 6) Fc.cells_len (by decide) (by exact h.2.2.1) (show [ga][0]? = some _ from rfl)) (by omega) (by first | omega | (simp; done))) rfl (j_ rfl (aK_ (ad := lad) (us := Fc.cells ga) R_ k_ rfl (fun v _ h => by exact h.2.2.1) (Fc.cells_len _) (ak_ Fc.cells_len (show [ga][0]? = some _ from rfl))) rfl (j_ rfl (h_ i_ rfl rfl rfl k_) rfl (j_ rfl (h_ o_ rfl rfl rfl w_) rfl (j_ rfl (m_ 0 F_ rfl rfl rfl) rfl (j_ rfl (h_ i_ rfl rfl rfl aj_) rfl (j_ rfl (h_ O_ rfl rfl rfl w_) rfl ?_)))))))))
  refine j_ rfl (m_ 0 F_ rfl rfl rfl) rfl (j_ rfl (h_ i_ rfl rfl rfl k_) rfl (j_ rfl (h_ o_ rfl rfl rfl w_) rfl (j_ rfl (m_ 0 F_ rfl rfl rfl) rfl (L_ (I_ 13 rfl (by kernel_rfl) (Q_ (dw_ (Fc.a f) (Pc.r x) (Fc.b f)) rfl C_ (fun _ _ _ => by exact trivial) rfl fun _ => ?_))))))
  refine d_ (q_ rfl (A_ (fun _ a b => ⟨a, b⟩) (M_ 15 [14, 15] (by kernel_rfl) (fun _ a b => ⟨a, b⟩) ?_)))
  refine bo_ rfl (aq_ (p := ga) (q := (bq_ (Fc.a f) (Pc.r x) (Fc.b f))) rfl rfl) rfl fun r1 hr1 => ?_
  refine j_ rfl (f_ rfl) rfl (L_ ?_)
  cases r1
  · skip
    replace hr1 := of_decide_eq_false hr1
    refine M_ 0 [16, 17, 18, 19, 20, 21, 22, 23, 24, 25, 26, 27, 28, 29, 30] (by kernel_rfl) (fun _ a b => ⟨a, b⟩) (v_ rfl rfl rfl rfl rfl (v_ rfl rfl rfl rfl rfl (v_ rfl rfl rfl rfl rfl (v_ rfl rfl rfl rfl rfl (v_ rfl rfl rfl rfl rfl (v_ rfl rfl rfl rfl rfl (v_ rfl rfl rfl rfl rfl (v_ rfl rfl rfl rfl rfl (v_ rfl rfl rfl rfl rfl ?_)))))))))
    refine v_ rfl rfl rfl rfl rfl (v_ rfl rfl rfl rfl rfl (v_ rfl rfl rfl rfl rfl (v_ rfl rfl rfl rfl rfl (j_ rfl (t_ rfl rfl) rfl (j_ rfl (e_ rfl) rfl (L_ (S_ (by kernel_rfl) (b_ rfl (u_ ?_)))))))))
    exact Y_ Tryz.results135 () (s_ rfl (by have p1 := eq_false hr1; simp only [os_, p1, if_true, if_false, decide_true, decide_false, Bool.and_true, Bool.and_false, Bool.true_and, Bool.false_and, Bool.or_true, Bool.or_false, Bool.true_or, Bool.false_or, Bool.not_true, Bool.not_false, ne_eq, not_true_eq_false, not_false_eq_true, true_and, and_true, false_and, and_false, true_or, or_true, false_or, or_false, ite_true, ite_false, Bool.false_eq_true])) C_ (fun _ _ _ => trivial)
  · skip
    replace hr1 := of_decide_eq_true hr1
    refine M_ 4 [16, 17, 18, 19, 20, 21, 22, 23, 24, 25, 26] (by kernel_rfl) (fun _ a b => ⟨a, b⟩) (p_ rfl rfl rfl (h_ i_ rfl rfl rfl k_) rfl (p_ rfl rfl rfl (P_ 0 R_ k_ rfl rfl rfl) rfl (p_ rfl rfl rfl (h_ i_ rfl rfl rfl k_) rfl (p_ rfl rfl rfl (h_ o_ rfl rfl rfl w_) rfl (p_ rfl rfl rfl (m_ 0 F_ rfl rfl rfl) rfl (p_ rfl rfl rfl (h_ i_ rfl rfl rfl aj_) rfl (p_ rfl rfl rfl (h_ O_ rfl rfl rfl w_) rfl (p_ rfl rfl rfl (m_ 0 F_ rfl rfl rfl) rfl (p_ rfl rfl rfl (h_ i_ rfl rfl rfl k_) rfl ?_)))))))))
    refine p_ rfl rfl rfl (h_ o_ rfl rfl rfl w_) rfl (p_ rfl rfl rfl (m_ 0 F_ rfl rfl rfl) rfl (L_ (I_ 27 rfl (by kernel_rfl) (l_ rfl rfl (Q_ (dw_ (Fc.a f) (Pc.t x) (Fc.b f)) rfl C_ (fun _ _ _ => by exact trivial) rfl fun _ => ?_)))))
    refine d_ (q_ rfl (A_ (fun _ a b => ⟨a, b⟩) (M_ 0 [28, 29, 30] (by kernel_rfl) (fun _ a b => ⟨a, b⟩) ?_)))
    refine at_ rfl rfl rfl (aq_ (p := f) (q := (bq_ (Fc.a f) (Pc.t x) (Fc.b f))) rfl rfl) rfl fun r2 hr2 => ?_
    refine j_ rfl (B_ rfl rfl) rfl (j_ rfl (e_ rfl) rfl (L_ (S_ (by kernel_rfl) (b_ rfl (u_ ?_)))))
    exact Y_ Tryz.results135 () (s_ rfl (by have p1 := eq_true hr1; rw [← hr2]; simp only [os_, p1, if_true, if_false, decide_true, decide_false, Bool.and_true, Bool.and_false, Bool.true_and, Bool.false_and, Bool.or_true, Bool.or_false, Bool.true_or, Bool.false_or, Bool.not_true, Bool.not_false, ne_eq, not_true_eq_false, not_false_eq_true, true_and, and_true, false_and, and_false, true_or, or_true, false_or, or_false, ite_true, ite_false, Bool.false_eq_true])) C_ (fun _ _ _ => trivial)
set_option maxHeartbeats 1000000 in
theorem og_ (kn : Str → Bool) (q : List Str) (hkn : ∀ s, kn s = true ↔ s ∈ q) (es : Array MapEntry) (ec : Nat) (hE : SetE str es q) (vb ab : Nat) (pv fv : Value) (x : Pc) (f ga gb : Fc) (lad : Option Addr) (lcap : Nat) : Tri Tryz.prog 136 #[.agg #[zp_ vb 0, .int .i64 (Fc.kind f), str (Fc.a f), str (Fc.b f), str (Fc.r f), .int .i64 (Fc.lo f), .int .i64 (Fc.hi f), .slice lad (List.length [ga, gb]) lcap, .int .i64 (Pc.kind x), str (Pc.a x), str (Pc.b x), str (Pc.c x), str (Pc.r x), str (Pc.s x), str (Pc.t x), .int .i64 (Pc.lo x), .int .i64 (Pc.hi x), .int .i64 (Pc.frm x)]] [] [bU_ vb (.cells (cE_ pv ab fv).toArray 83 (0, 0)), bU_ ab (.map es ec), aQ_ lad (List.flatMap Fc.cells [ga, gb])] (fun _ : Unit => .bool (nd_ kn x f ga gb)) (fun _ => []) (fun _ => []) := by
 refine T_ Tryz.func136 rfl rfl Tryz.ntmps136 rfl fun v0 => ?_
 refine g_ (c_ (aN_ rfl rfl fun b1 => ?_))
 refine a_ (e_ rfl) rfl (d_ (b_ rfl (g_ (c_ (a_ (h_ i_ rfl rfl rfl aF_) rfl (a_ (m_ 0 bc_ rfl rfl rfl) rfl (a_ (ah_ ag_ k_ rfl rfl (fun v _ h => aM_ (n := 6) Fc.cells_len (by decide) (by exact h.2.2.1) (show [ga, gb][0]? = some _ from rfl)) (by omega) (by first | omega | (simp; done))) rfl (a_ (bQ_ o_ rfl rfl rfl w_) rfl (a_ (be_ (ad := lad) F_ rfl (fun v _ h => by exact h.2.2.1) (ak_ Fc.cells_len (show [ga, gb][0]? = some _ from rfl) 2 _ rfl)) rfl ?_)))))))))
 refine a_ (e_ rfl) rfl (d_ (b_ rfl (g_ ?_)))
 refine aJ_ (by kernel_rfl) ?_
 refine M_ 33 [0, 1, 2, 3, 4, 5, 6, 7, 8, 9, 10] (by kernel_rfl) (fun _ a b => ⟨a, b⟩) (j_ rfl (h_ i_ rfl rfl rfl aF_) rfl (j_ rfl (m_ 0 bc_ rfl rfl rfl) rfl (j_ rfl (ah_ ag_ k_ rfl rfl (fun v _ h => aM_ (n := 6) Fc.cells_len (by decide) (by exact h.2.2.1) (show [ga, gb][0]? = some _ from rfl)) (by omega) (by first | omega | (simp; done))) rfl (j_ rfl (aK_ (ad := lad) (us := Fc.cells ga) R_ k_ rfl (fun v _ h => by exact h.2.2.1) (Fc.cells_len _) (ak_ Fc.cells_len (show [ga, gb][0]? = some _ from rfl))) rfl (j_ rfl (h_ i_ rfl rfl rfl k_) rfl (j_ rfl (h_ o_ rfl rfl rfl w_) rfl (j_ rfl (m_ 0 F_ rfl rfl rfl) rfl (j_ rfl (h_ i_ rfl rfl rfl aj_) rfl (j_ rfl (h_ O_ rfl rfl rfl w_) rfl ?_)))))))))
 refine j_ rfl (m_ 0 F_ rfl rfl rfl) rfl (j_ rfl (f_ rfl) rfl (L_ (I_ 11 rfl (by kernel_rfl) (Q_ (dw_ (Fc.a f) (Pc.r x) (Fc.b ga)) rfl C_ (fun _ _ _ => by exact trivial) rfl fun _ => ?_))))
 refine d_ (q_ rfl (A_ (fun _ a b => ⟨a, b⟩) (M_ 30 [12, 13] (by kernel_rfl) (fun _ a b => ⟨a, b⟩) ?_)))
 refine bo_ rfl (aq_ (p := ga) (q := (bq_ (Fc.a f) (Pc.r x) (Fc.b ga))) rfl rfl) rfl fun r1 hr1 => ?_
 refine j_ rfl (f_ rfl) rfl (L_ ?_)
 cases r1
 ·
  replace hr1 := of_decide_eq_false hr1
  refine M_ 0 [14, 15, 16, 17, 18, 19, 20, 21, 22, 23, 24, 25, 26, 27, 28, 29, 30, 31, 32, 33, 34, 35, 36, 37, 38, 39, 40, 41, 42, 43] (by kernel_rfl) (fun _ a b => ⟨a, b⟩) (v_ rfl rfl rfl rfl rfl (v_ rfl rfl rfl rfl rfl (v_ rfl rfl rfl rfl rfl (v_ rfl rfl rfl rfl rfl (v_ rfl rfl rfl rfl rfl (v_ rfl rfl rfl rfl rfl (v_ rfl rfl rfl rfl rfl (v_ rfl rfl rfl rfl rfl (v_ rfl rfl rfl rfl rfl ?_)))))))))
  refine v_ rfl rfl rfl rfl rfl (v_ rfl rfl rfl rfl rfl (v_ rfl rfl rfl rfl rfl (v_ rfl rfl rfl rfl rfl (j_ rfl (t_ rfl rfl) rfl (j_ rfl (f_ rfl) rfl (v_ rfl rfl rfl rfl rfl (v_ rfl rfl rfl rfl rfl (v_ rfl rfl rfl rfl rfl (v_ rfl rfl rfl rfl rfl ?_)))))))))
  refine v_ rfl rfl rfl rfl rfl (v_ rfl rfl rfl rfl rfl (v_ rfl rfl rfl rfl rfl (v_ rfl rfl rfl rfl rfl (v_ rfl rfl rfl rfl rfl (v_ rfl rfl rfl rfl rfl (v_ rfl rfl rfl rfl rfl (v_ rfl rfl rfl rfl rfl (v_ rfl rfl rfl rfl rfl (j_ rfl (t_ rfl rfl) rfl ?_)))))))))
  refine j_ rfl (e_ rfl) rfl (L_ (S_ (by kernel_rfl) (b_ rfl (u_ ?_))))
  exact Y_ Tryz.results136 () (s_ rfl (by have p1 := eq_false hr1; simp only [nd_, p1, if_true, if_false, decide_true, decide_false, Bool.and_true, Bool.and_false, Bool.true_and, Bool.false_and, Bool.or_true, Bool.or_false, Bool.true_or, Bool.false_or, Bool.not_true, Bool.not_false, ne_eq, not_true_eq_false, not_false_eq_true, true_and, and_true, false_and, and_false, true_or, or_true, false_or, or_false, ite_true, ite_false, Bool.false_eq_true])) C_ (fun _ _ _ => trivial)
 ·
  replace hr1 := of_decide_eq_true hr1
  refine M_ 19 [14, 15, 16, 17, 18, 19, 20, 21, 22, 23, 24] (by kernel_rfl) (fun _ a b => ⟨a, b⟩) (p_ rfl rfl rfl (h_ i_ rfl rfl rfl aF_) rfl (p_ rfl rfl rfl (m_ 0 bc_ rfl rfl rfl) rfl (p_ rfl rfl rfl (ah_ ag_ k_ rfl rfl (fun v _ h => aM_ (n := 6) Fc.cells_len (by decide) (by exact h.2.2.1) (show [ga, gb][1]? = some _ from rfl)) (by omega) (by first | omega | (simp; done))) rfl (p_ rfl rfl rfl (aK_ (ad := lad) (us := Fc.cells gb) R_ k_ rfl (fun v _ h => by exact h.2.2.1) (Fc.cells_len _) (ak_ Fc.cells_len (show [ga, gb][1]? = some _ from rfl))) rfl (p_ rfl rfl rfl (f_ rfl) rfl (p_ rfl rfl rfl (h_ i_ rfl rfl rfl aj_) rfl (p_ rfl rfl rfl (h_ O_ rfl rfl rfl w_) rfl (p_ rfl rfl rfl (m_ 0 F_ rfl rfl rfl) rfl (p_ rfl rfl rfl (h_ i_ rfl rfl rfl k_) rfl ?_)))))))))
  refine p_ rfl rfl rfl (h_ o_ rfl rfl rfl w_) rfl (p_ rfl rfl rfl (m_ 0 F_ rfl rfl rfl) rfl (L_ (I_ 25 rfl (by kernel_rfl) (l_ rfl rfl (Q_ (dw_ (Fc.b ga) (Pc.s x) (Fc.b f)) rfl C_ (fun _ _ _ => by exact trivial) rfl fun _ => ?_)))))
  refine d_ (q_ rfl (A_ (fun _ a b => ⟨a, b⟩) (M_ 15 [26, 27, 28] (by kernel_rfl) (fun _ a b => ⟨a, b⟩) ?_)))
  refine at_ rfl rfl rfl (aq_ (p := gb) (q := (bq_ (Fc.b ga) (Pc.s x) (Fc.b f))) rfl rfl) rfl fun r2 hr2 => ?_
  refine j_ rfl (B_ rfl rfl) rfl (j_ rfl (f_ rfl) rfl (L_ ?_))
  cases r2
  ·
   replace hr2 := of_decide_eq_false hr2
   refine M_ 0 [29, 30, 31, 32, 33, 34, 35, 36, 37, 38, 39, 40, 41, 42, 43] (by kernel_rfl) (fun _ a b => ⟨a, b⟩) (v_ rfl rfl rfl rfl rfl (v_ rfl rfl rfl rfl rfl (v_ rfl rfl rfl rfl rfl (v_ rfl rfl rfl rfl rfl (v_ rfl rfl rfl rfl rfl (v_ rfl rfl rfl rfl rfl (v_ rfl rfl rfl rfl rfl (v_ rfl rfl rfl rfl rfl (v_ rfl rfl rfl rfl rfl ?_)))))))))
   refine v_ rfl rfl rfl rfl rfl (v_ rfl rfl rfl rfl rfl (v_ rfl rfl rfl rfl rfl (v_ rfl rfl rfl rfl rfl (j_ rfl (t_ rfl rfl) rfl (j_ rfl (e_ rfl) rfl (L_ (S_ (by kernel_rfl) (b_ rfl (u_ ?_)))))))))
   exact Y_ Tryz.results136 () (s_ rfl (by have p1 := eq_true hr1; have p2 := eq_false hr2; simp only [nd_, p1, p2, if_true, if_false, decide_true, decide_false, Bool.and_true, Bool.and_false, Bool.true_and, Bool.false_and, Bool.or_true, Bool.or_false, Bool.true_or, Bool.false_or, Bool.not_true, Bool.not_false, ne_eq, not_true_eq_false, not_false_eq_true, true_and, and_true, false_and, and_false, true_or, or_true, false_or, or_false, ite_true, ite_false, Bool.false_eq_true])) C_ (fun _ _ _ => trivial)
  ·
   replace hr2 := of_decide_eq_true hr2
   refine M_ 4 [29, 30, 31, 32, 33, 34, 35, 36, 37, 38, 39] (by kernel_rfl) (fun _ a b => ⟨a, b⟩) (p_ rfl rfl rfl (h_ i_ rfl rfl rfl k_) rfl (p_ rfl rfl rfl (P_ 0 R_ k_ rfl rfl rfl) rfl (p_ rfl rfl rfl (h_ i_ rfl rfl rfl k_) rfl (p_ rfl rfl rfl (h_ o_ rfl rfl rfl w_) rfl (p_ rfl rfl rfl (m_ 0 F_ rfl rfl rfl) rfl (p_ rfl rfl rfl (h_ i_ rfl rfl rfl aj_) rfl (p_ rfl rfl rfl (h_ O_ rfl rfl rfl w_) rfl (p_ rfl rfl rfl (m_ 0 F_ rfl rfl rfl) rfl (p_ rfl rfl rfl (h_ i_ rfl rfl rfl k_) rfl ?_)))))))))
   refine p_ rfl rfl rfl (h_ o_ rfl rfl rfl w_) rfl (p_ rfl rfl rfl (m_ 0 F_ rfl rfl rfl) rfl (L_ (I_ 40 rfl (by kernel_rfl) (l_ rfl rfl (Q_ (dw_ (Fc.a f) (Pc.t x) (Fc.b f)) rfl C_ (fun _ _ _ => by exact trivial) rfl fun _ => ?_)))))
   refine d_ (q_ rfl (A_ (fun _ a b => ⟨a, b⟩) (M_ 0 [41, 42, 43] (by kernel_rfl) (fun _ a b => ⟨a, b⟩) ?_)))
   refine at_ rfl rfl rfl (aq_ (p := f) (q := (bq_ (Fc.a f) (Pc.t x) (Fc.b f))) rfl rfl) rfl fun r3 hr3 => ?_
   refine j_ rfl (B_ rfl rfl) rfl (j_ rfl (e_ rfl) rfl (L_ (S_ (by kernel_rfl) (b_ rfl (u_ ?_)))))
   exact Y_ Tryz.results136 () (s_ rfl (by have p1 := eq_true hr1; have p2 := eq_true hr2; rw [← hr3]; simp only [nd_, p1, p2, if_true, if_false, decide_true, decide_false, Bool.and_true, Bool.and_false, Bool.true_and, Bool.false_and, Bool.or_true, Bool.or_false, Bool.true_or, Bool.false_or, Bool.not_true, Bool.not_false, ne_eq, not_true_eq_false, not_false_eq_true, true_and, and_true, false_and, and_false, true_or, or_true, false_or, or_false, ite_true, ite_false, Bool.false_eq_true])) C_ (fun _ _ _ => trivial)
set_option maxHeartbeats 1000000 in
theorem of_ (kn : Str → Bool) (q : List Str) (hkn : ∀ s, kn s = true ↔ s ∈ q) (es : Array MapEntry) (ec : Nat) (hE : SetE str es q) (vb ab : Nat) (pv fv : Value) (x : Pc) (f ga gb : Fc) (lad : Option Addr) (lcap : Nat) : Tri Tryz.prog 137 #[.agg #[zp_ vb 0, .int .i64 (Fc.kind f), str (Fc.a f), str (Fc.b f), str (Fc.r f), .int .i64 (Fc.lo f), .int .i64 (Fc.hi f), .slice lad (List.length [ga, gb]) lcap, .int .i64 (Pc.kind x), str (Pc.a x), str (Pc.b x), str (Pc.c x), str (Pc.r x), str (Pc.s x), str (Pc.t x), .int .i64 (Pc.lo x), .int .i64 (Pc.hi x), .int .i64 (Pc.frm x)]] [] [bU_ vb (.cells (cE_ pv ab fv).toArray 83 (0, 0)), bU_ ab (.map es ec), aQ_ lad (List.flatMap Fc.cells [ga, gb])] (fun _ : Unit => .bool (nc_ kn x f ga gb)) (fun _ => []) (fun _ => []) := by
 refine T_ Tryz.func137 rfl rfl Tryz.ntmps137 rfl fun v0 => ?_
 refine g_ (c_ (aN_ rfl rfl fun b1 => ?_))
 refine a_ (e_ rfl) rfl (d_ (b_ rfl (g_ (c_ (a_ (h_ i_ rfl rfl rfl aF_) rfl (a_ (m_ 0 bc_ rfl rfl rfl) rfl (a_ (ah_ ag_ k_ rfl rfl (fun v _ h => aM_ (n := 6) Fc.cells_len (by decide) (by exact h.2.2.1) (show [ga, gb][0]? = some _ from rfl)) (by omega) (by first | omega | (simp; done))) rfl (a_ (bQ_ o_ rfl rfl rfl w_) rfl (a_ (be_ (ad := lad) F_ rfl (fun v _ h => by exact h.2.2.1) (ak_ Fc.cells_len (show [ga, gb][0]? = some _ from rfl) 2 _ rfl)) rfl ?_)))))))))
 refine a_ (e_ rfl) rfl (d_ (b_ rfl (g_ ?_)))
 refine aJ_ (by kernel_rfl) ?_
 refine M_ 27 [0, 1, 2, 3, 4, 5, 6, 7, 8, 9, 10] (by kernel_rfl) (fun _ a b => ⟨a, b⟩) (j_ rfl (h_ i_ rfl rfl rfl aF_) rfl (j_ rfl (m_ 0 bc_ rfl rfl rfl) rfl (j_ rfl (ah_ ag_ k_ rfl rfl (fun v _ h => aM_ (n := 6) Fc.cells_len (by decide) (by exact h.2.2.1) (show [ga, gb][0]? = some _ from rfl)) (by omega) (by first | omega | (simp; done))) rfl (j_ rfl (aK_ (ad := lad) (us := Fc.cells ga) R_ k_ rfl (fun v _ h => by exact h.2.2.1) (Fc.cells_len _) (ak_ Fc.cells_len (show [ga, gb][0]? = some _ from rfl))) rfl (j_ rfl (h_ i_ rfl rfl rfl k_) rfl (j_ rfl (h_ o_ rfl rfl rfl w_) rfl (j_ rfl (m_ 0 F_ rfl rfl rfl) rfl (j_ rfl (h_ i_ rfl rfl rfl aj_) rfl (j_ rfl (h_ O_ rfl rfl rfl w_) rfl ?_)))))))))
 refine j_ rfl (m_ 0 F_ rfl rfl rfl) rfl (j_ rfl (f_ rfl) rfl (L_ (I_ 11 rfl (by kernel_rfl) (Q_ (dw_ (Fc.a f) (Pc.r x) (Fc.b ga)) rfl C_ (fun _ _ _ => by exact trivial) rfl fun _ => ?_))))
 refine d_ (q_ rfl (A_ (fun _ a b => ⟨a, b⟩) (M_ 24 [12, 13] (by kernel_rfl) (fun _ a b => ⟨a, b⟩) ?_)))
 refine bo_ rfl (aq_ (p := ga) (q := (bq_ (Fc.a f) (Pc.r x) (Fc.b ga))) rfl rfl) rfl fun r1 hr1 => ?_
 refine j_ rfl (f_ rfl) rfl (L_ ?_)
 cases r1
 ·
  replace hr1 := of_decide_eq_false hr1
  refine M_ 0 [14, 15, 16, 17, 18, 19, 20, 21, 22, 23, 24, 25, 26, 27, 28, 29, 30, 31, 32, 33, 34, 35, 36, 37] (by kernel_rfl) (fun _ a b => ⟨a, b⟩) (v_ rfl rfl rfl rfl rfl (v_ rfl rfl rfl rfl rfl (v_ rfl rfl rfl rfl rfl (v_ rfl rfl rfl rfl rfl (v_ rfl rfl rfl rfl rfl (v_ rfl rfl rfl rfl rfl (v_ rfl rfl rfl rfl rfl (v_ rfl rfl rfl rfl rfl (v_ rfl rfl rfl rfl rfl ?_)))))))))
  refine v_ rfl rfl rfl rfl rfl (j_ rfl (t_ rfl rfl) rfl (j_ rfl (f_ rfl) rfl (v_ rfl rfl rfl rfl rfl (v_ rfl rfl rfl rfl rfl (v_ rfl rfl rfl rfl rfl (v_ rfl rfl rfl rfl rfl (v_ rfl rfl rfl rfl rfl (v_ rfl rfl rfl rfl rfl (v_ rfl rfl rfl rfl rfl ?_)))))))))
  refine v_ rfl rfl rfl rfl rfl (v_ rfl rfl rfl rfl rfl (v_ rfl rfl rfl rfl rfl (j_ rfl (t_ rfl rfl) rfl (j_ rfl (e_ rfl) rfl (L_ (S_ (by kernel_rfl) (b_ rfl (u_ ?_))))))))
  exact Y_ Tryz.results137 () (s_ rfl (by have p1 := eq_false hr1; simp only [nc_, p1, if_true, if_false, decide_true, decide_false, Bool.and_true, Bool.and_false, Bool.true_and, Bool.false_and, Bool.or_true, Bool.or_false, Bool.true_or, Bool.false_or, Bool.not_true, Bool.not_false, ne_eq, not_true_eq_false, not_false_eq_true, true_and, and_true, false_and, and_false, true_or, or_true, false_or, or_false, ite_true, ite_false, Bool.false_eq_true])) C_ (fun _ _ _ => trivial)
 ·
  replace hr1 := of_decide_eq_true hr1
  refine M_ 16 [14, 15, 16, 17, 18, 19, 20, 21] (by kernel_rfl) (fun _ a b => ⟨a, b⟩) (p_ rfl rfl rfl (h_ i_ rfl rfl rfl aF_) rfl (p_ rfl rfl rfl (m_ 0 bc_ rfl rfl rfl) rfl (p_ rfl rfl rfl (ah_ ag_ k_ rfl rfl (fun v _ h => aM_ (n := 6) Fc.cells_len (by decide) (by exact h.2.2.1) (show [ga, gb][1]? = some _ from rfl)) (by omega) (by first | omega | (simp; done))) rfl (p_ rfl rfl rfl (aK_ (ad := lad) (us := Fc.cells gb) R_ k_ rfl (fun v _ h => by exact h.2.2.1) (Fc.cells_len _) (ak_ Fc.cells_len (show [ga, gb][1]? = some _ from rfl))) rfl (p_ rfl rfl rfl (f_ rfl) rfl (p_ rfl rfl rfl (h_ i_ rfl rfl rfl aj_) rfl (p_ rfl rfl rfl (h_ O_ rfl rfl rfl w_) rfl (p_ rfl rfl rfl (m_ 0 F_ rfl rfl rfl) rfl (L_ ?_)))))))))
  refine I_ 22 rfl (by kernel_rfl) (l_ rfl rfl (Q_ (bw_ (Fc.b ga) (Pc.a x)) rfl C_ (fun _ _ _ => by exact trivial) rfl fun _ => ?_))
  refine d_ (q_ rfl (A_ (fun _ a b => ⟨a, b⟩) (M_ 12 [23, 24, 25] (by kernel_rfl) (fun _ a b => ⟨a, b⟩) ?_)))
  refine at_ rfl rfl rfl (aq_ (p := gb) (q := (aE_ (Fc.b ga) (Pc.a x))) rfl rfl) rfl fun r2 hr2 => ?_
  refine j_ rfl (B_ rfl rfl) rfl (j_ rfl (f_ rfl) rfl (L_ ?_))
  cases r2
  ·
   replace hr2 := of_decide_eq_false hr2
   refine M_ 0 [26, 27, 28, 29, 30, 31, 32, 33, 34, 35, 36, 37] (by kernel_rfl) (fun _ a b => ⟨a, b⟩) (v_ rfl rfl rfl rfl rfl (v_ rfl rfl rfl rfl rfl (v_ rfl rfl rfl rfl rfl (v_ rfl rfl rfl rfl rfl (v_ rfl rfl rfl rfl rfl (v_ rfl rfl rfl rfl rfl (v_ rfl rfl rfl rfl rfl (v_ rfl rfl rfl rfl rfl (v_ rfl rfl rfl rfl rfl ?_)))))))))
   refine v_ rfl rfl rfl rfl rfl (j_ rfl (t_ rfl rfl) rfl (j_ rfl (e_ rfl) rfl (L_ (S_ (by kernel_rfl) (b_ rfl (u_ ?_))))))
   exact Y_ Tryz.results137 () (s_ rfl (by have p1 := eq_true hr1; have p2 := eq_false hr2; simp only [nc_, p1, p2, if_true, if_false, decide_true, decide_false, Bool.and_true, Bool.and_false, Bool.true_and, Bool.false_and, Bool.or_true, Bool.or_false, Bool.true_or, Bool.false_or, Bool.not_true, Bool.not_false, ne_eq, not_true_eq_false, not_false_eq_true, true_and, and_true, false_and, and_false, true_or, or_true, false_or, or_false, ite_true, ite_false, Bool.false_eq_true])) C_ (fun _ _ _ => trivial)
  ·
   replace hr2 := of_decide_eq_true hr2
   refine M_ 4 [26, 27, 28, 29, 30, 31, 32, 33] (by kernel_rfl) (fun _ a b => ⟨a, b⟩) (p_ rfl rfl rfl (h_ i_ rfl rfl rfl k_) rfl (p_ rfl rfl rfl (P_ 0 R_ k_ rfl rfl rfl) rfl (p_ rfl rfl rfl (h_ i_ rfl rfl rfl k_) rfl (p_ rfl rfl rfl (h_ o_ rfl rfl rfl w_) rfl (p_ rfl rfl rfl (m_ 0 F_ rfl rfl rfl) rfl (p_ rfl rfl rfl (h_ i_ rfl rfl rfl aj_) rfl (p_ rfl rfl rfl (h_ O_ rfl rfl rfl w_) rfl (p_ rfl rfl rfl (m_ 0 F_ rfl rfl rfl) rfl (L_ ?_)))))))))
   refine I_ 34 rfl (by kernel_rfl) (l_ rfl rfl (Q_ (bw_ (Fc.a f) (Pc.c x)) rfl C_ (fun _ _ _ => by exact trivial) rfl fun _ => ?_))
   refine d_ (q_ rfl (A_ (fun _ a b => ⟨a, b⟩) (M_ 0 [35, 36, 37] (by kernel_rfl) (fun _ a b => ⟨a, b⟩) ?_)))
   refine at_ rfl rfl rfl (aq_ (p := f) (q := (aE_ (Fc.a f) (Pc.c x))) rfl rfl) rfl fun r3 hr3 => ?_
   refine j_ rfl (B_ rfl rfl) rfl (j_ rfl (e_ rfl) rfl (L_ (S_ (by kernel_rfl) (b_ rfl (u_ ?_)))))
   exact Y_ Tryz.results137 () (s_ rfl (by have p1 := eq_true hr1; have p2 := eq_true hr2; rw [← hr3]; simp only [nc_, p1, p2, if_true, if_false, decide_true, decide_false, Bool.and_true, Bool.and_false, Bool.true_and, Bool.false_and, Bool.or_true, Bool.or_false, Bool.true_or, Bool.false_or, Bool.not_true, Bool.not_false, ne_eq, not_true_eq_false, not_false_eq_true, true_and, and_true, false_and, and_false, true_or, or_true, false_or, or_false, ite_true, ite_false, Bool.false_eq_true])) C_ (fun _ _ _ => trivial)
set_option maxHeartbeats 1000000 in
theorem oe_ (kn : Str → Bool) (q : List Str) (hkn : ∀ s, kn s = true ↔ s ∈ q) (es : Array MapEntry) (ec : Nat) (hE : SetE str es q) (vb ab : Nat) (pv fv : Value) (x : Pc) (f ga gb : Fc) (lad : Option Addr) (lcap : Nat) : Tri Tryz.prog 138 #[.agg #[zp_ vb 0, .int .i64 (Fc.kind f), str (Fc.a f), str (Fc.b f), str (Fc.r f), .int .i64 (Fc.lo f), .int .i64 (Fc.hi f), .slice lad (List.length [ga, gb]) lcap, .int .i64 (Pc.kind x), str (Pc.a x), str (Pc.b x), str (Pc.c x), str (Pc.r x), str (Pc.s x), str (Pc.t x), .int .i64 (Pc.lo x), .int .i64 (Pc.hi x), .int .i64 (Pc.frm x)]] [] [bU_ vb (.cells (cE_ pv ab fv).toArray 83 (0, 0)), bU_ ab (.map es ec), aQ_ lad (List.flatMap Fc.cells [ga, gb])] (fun _ : Unit => .bool (nb_ kn x f ga gb)) (fun _ => []) (fun _ => []) := by
  refine T_ Tryz.func138 rfl rfl Tryz.ntmps138 rfl fun v0 => ?_
  refine g_ (c_ (aN_ rfl rfl fun b1 => ?_))
  refine a_ (e_ rfl) rfl (d_ (b_ rfl (g_ (c_ (a_ (h_ i_ rfl rfl rfl aF_) rfl (a_ (m_ 0 bc_ rfl rfl rfl) rfl (a_ (ah_ ag_ k_ rfl rfl (fun v _ h => aM_ (n := 6) Fc.cells_len (by decide) (by exact h.2.2.1) (show [ga, gb][0]? = some _ from rfl)) (by omega) (by first | omega | (simp; done))) rfl (a_ (bQ_ o_ rfl rfl rfl w_) rfl (a_ (be_ (ad := lad) F_ rfl (fun v _ h => by exact h.2.2.1) (ak_ Fc.cells_len (show [ga, gb][0]? = some _ from rfl) 2 _ rfl)) rfl ?_)))))))))
  refine a_ (e_ rfl) rfl (d_ (b_ rfl (g_ ?_)))
  refine aJ_ (by kernel_rfl) ?_
  refine M_ 21 [0, 1, 2, 3, 4, 5, 6, 7, 8, 9, 10, 11, 12] (by kernel_rfl) (fun _ a b => ⟨a, b⟩) (j_ rfl (h_ i_ rfl rfl rfl aF_) rfl (j_ rfl (m_ 0 bc_ rfl rfl rfl) rfl (j_ rfl (ah_ ag_ k_ rfl rfl (fun v _ h => aM_ (n := 6) Fc.cells_len (by decide) (by exact h.2.2.1) (show [ga, gb][0]? = some _ from rfl)) (by omega) (by first | omega | (simp; done))) rfl (j_ rfl (aK_ (ad := lad) (us := Fc.cells ga) R_ k_ rfl (fun v _ h => by exact h.2.2.1) (Fc.cells_len _) (ak_ Fc.cells_len (show [ga, gb][0]? = some _ from rfl))) rfl (j_ rfl (h_ i_ rfl rfl rfl k_) rfl (j_ rfl (h_ o_ rfl rfl rfl w_) rfl (j_ rfl (m_ 0 F_ rfl rfl rfl) rfl (j_ rfl (h_ i_ rfl rfl rfl aF_) rfl (j_ rfl (m_ 0 bc_ rfl rfl rfl) rfl ?_)))))))))
  refine j_ rfl (ah_ ag_ k_ rfl rfl (fun v _ h => aM_ (n := 6) Fc.cells_len (by decide) (by exact h.2.2.1) (show [ga, gb][0]? = some _ from rfl)) (by omega) (by first | omega | (simp; done))) rfl (j_ rfl (bQ_ o_ rfl rfl rfl w_) rfl (j_ rfl (be_ (ad := lad) F_ rfl (fun v _ h => by exact h.2.2.1) (ak_ Fc.cells_len (show [ga, gb][0]? = some _ from rfl) 3 _ rfl)) rfl (j_ rfl (f_ rfl) rfl (L_ (I_ 13 rfl (by kernel_rfl) (Q_ (dw_ (Fc.a f) (Fc.r ga) (Fc.b ga)) rfl C_ (fun _ _ _ => by exact trivial) rfl fun _ => ?_))))))
  refine d_ (q_ rfl (A_ (fun _ a b => ⟨a, b⟩) (M_ 18 [14, 15] (by kernel_rfl) (fun _ a b => ⟨a, b⟩) ?_)))
  refine bo_ rfl (aq_ (p := ga) (q := (bq_ (Fc.a f) (Fc.r ga) (Fc.b ga))) rfl rfl) rfl fun r1 hr1 => ?_
  refine j_ rfl (f_ rfl) rfl (L_ ?_)
  cases r1
  · skip
    replace hr1 := of_decide_eq_false hr1
    refine M_ 0 [16, 17, 18, 19, 20, 21, 22, 23, 24, 25, 26, 27, 28, 29, 30, 31, 32, 33] (by kernel_rfl) (fun _ a b => ⟨a, b⟩) (v_ rfl rfl rfl rfl rfl (v_ rfl rfl rfl rfl rfl (v_ rfl rfl rfl rfl rfl (v_ rfl rfl rfl rfl rfl (v_ rfl rfl rfl rfl rfl (v_ rfl rfl rfl rfl rfl (v_ rfl rfl rfl rfl rfl (j_ rfl (t_ rfl rfl) rfl (j_ rfl (f_ rfl) rfl ?_)))))))))
    refine v_ rfl rfl rfl rfl rfl (v_ rfl rfl rfl rfl rfl (v_ rfl rfl rfl rfl rfl (v_ rfl rfl rfl rfl rfl (v_ rfl rfl rfl rfl rfl (v_ rfl rfl rfl rfl rfl (v_ rfl rfl rfl rfl rfl (j_ rfl (t_ rfl rfl) rfl (j_ rfl (e_ rfl) rfl (L_ ?_)))))))))
    refine S_ (by kernel_rfl) (b_ rfl (u_ ?_))
    exact Y_ Tryz.results138 () (s_ rfl (by have p1 := eq_false hr1; simp only [nb_, p1, if_true, if_false, decide_true, decide_false, Bool.and_true, Bool.and_false, Bool.true_and, Bool.false_and, Bool.or_true, Bool.or_false, Bool.true_or, Bool.false_or, Bool.not_true, Bool.not_false, ne_eq, not_true_eq_false, not_false_eq_true, true_and, and_true, false_and, and_false, true_or, or_true, false_or, or_false, ite_true, ite_false, Bool.false_eq_true])) C_ (fun _ _ _ => trivial)
  · skip
    replace hr1 := of_decide_eq_true hr1
    refine M_ 13 [16, 17, 18, 19, 20] (by kernel_rfl) (fun _ a b => ⟨a, b⟩) (p_ rfl rfl rfl (h_ i_ rfl rfl rfl aF_) rfl (p_ rfl rfl rfl (m_ 0 bc_ rfl rfl rfl) rfl (p_ rfl rfl rfl (ah_ ag_ k_ rfl rfl (fun v _ h => aM_ (n := 6) Fc.cells_len (by decide) (by exact h.2.2.1) (show [ga, gb][1]? = some _ from rfl)) (by omega) (by first | omega | (simp; done))) rfl (p_ rfl rfl rfl (aK_ (ad := lad) (us := Fc.cells gb) R_ k_ rfl (fun v _ h => by exact h.2.2.1) (Fc.cells_len _) (ak_ Fc.cells_len (show [ga, gb][1]? = some _ from rfl))) rfl (p_ rfl rfl rfl (f_ rfl) rfl (L_ (I_ 21 rfl (by kernel_rfl) (l_ rfl rfl (Q_ (bw_ (Fc.b ga) [33]) rfl C_ (fun _ _ _ => by exact trivial) rfl fun _ => ?_)))))))))
    refine d_ (q_ rfl (A_ (fun _ a b => ⟨a, b⟩) (M_ 9 [22, 23, 24] (by kernel_rfl) (fun _ a b => ⟨a, b⟩) ?_)))
    refine at_ rfl rfl rfl (aq_ (p := gb) (q := (aE_ (Fc.b ga) [33])) rfl rfl) rfl fun r2 hr2 => ?_
    refine j_ rfl (B_ rfl rfl) rfl (j_ rfl (f_ rfl) rfl (L_ ?_))
    cases r2
    · skip
      replace hr2 := of_decide_eq_false hr2
      refine M_ 0 [25, 26, 27, 28, 29, 30, 31, 32, 33] (by kernel_rfl) (fun _ a b => ⟨a, b⟩) (v_ rfl rfl rfl rfl rfl (v_ rfl rfl rfl rfl rfl (v_ rfl rfl rfl rfl rfl (v_ rfl rfl rfl rfl rfl (v_ rfl rfl rfl rfl rfl (v_ rfl rfl rfl rfl rfl (v_ rfl rfl rfl rfl rfl (j_ rfl (t_ rfl rfl) rfl (j_ rfl (e_ rfl) rfl ?_)))))))))
      refine L_ (S_ (by kernel_rfl) (b_ rfl (u_ ?_)))
      exact Y_ Tryz.results138 () (s_ rfl (by have p1 := eq_true hr1; have p2 := eq_false hr2; simp only [nb_, p1, p2, if_true, if_false, decide_true, decide_false, Bool.and_true, Bool.and_false, Bool.true_and, Bool.false_and, Bool.or_true, Bool.or_false, Bool.true_or, Bool.false_or, Bool.not_true, Bool.not_false, ne_eq, not_true_eq_false, not_false_eq_true, true_and, and_true, false_and, and_false, true_or, or_true, false_or, or_false, ite_true, ite_false, Bool.false_eq_true])) C_ (fun _ _ _ => trivial)
    · skip
      replace hr2 := of_decide_eq_true hr2
      refine M_ 4 [25, 26, 27, 28, 29] (by kernel_rfl) (fun _ a b => ⟨a, b⟩) (p_ rfl rfl rfl (h_ i_ rfl rfl rfl k_) rfl (p_ rfl rfl rfl (P_ 0 R_ k_ rfl rfl rfl) rfl (p_ rfl rfl rfl (h_ i_ rfl rfl rfl k_) rfl (p_ rfl rfl rfl (h_ o_ rfl rfl rfl w_) rfl (p_ rfl rfl rfl (m_ 0 F_ rfl rfl rfl) rfl (L_ (I_ 30 rfl (by kernel_rfl) (l_ rfl rfl (Q_ (bw_ (Fc.a f) [33]) rfl C_ (fun _ _ _ => by exact trivial) rfl fun _ => ?_)))))))))
      refine d_ (q_ rfl (A_ (fun _ a b => ⟨a, b⟩) (M_ 0 [31, 32, 33] (by kernel_rfl) (fun _ a b => ⟨a, b⟩) ?_)))
      refine at_ rfl rfl rfl (aq_ (p := f) (q := (aE_ (Fc.a f) [33])) rfl rfl) rfl fun r3 hr3 => ?_
      refine j_ rfl (B_ rfl rfl) rfl (j_ rfl (e_ rfl) rfl (L_ (S_ (by kernel_rfl) (b_ rfl (u_ ?_)))))
      exact Y_ Tryz.results138 () (s_ rfl (by have p1 := eq_true hr1; have p2 := eq_true hr2; rw [← hr3]; simp only [nb_, p1, p2, if_true, if_false, decide_true, decide_false, Bool.and_true, Bool.and_false, Bool.true_and, Bool.false_and, Bool.or_true, Bool.or_false, Bool.true_or, Bool.false_or, Bool.not_true, Bool.not_false, ne_eq, not_true_eq_false, not_false_eq_true, true_and, and_true, false_and, and_false, true_or, or_true, false_or, or_false, ite_true, ite_false, Bool.false_eq_true])) C_ (fun _ _ _ => trivial)
set_option maxHeartbeats 1000000 in
theorem mV_ (kn : Str → Bool) (q : List Str) (hkn : ∀ s, kn s = true ↔ s ∈ q) (es : Array MapEntry) (ec : Nat) (hE : SetE str es q) (vb ab : Nat) (pv fv : Value) (x : Pc) (f : Fc) (lad : Option Addr) (lcap : Nat) : Tri Tryz.prog 139 #[.agg #[zp_ vb 0, .int .i64 (Fc.kind f), str (Fc.a f), str (Fc.b f), str (Fc.r f), .int .i64 (Fc.lo f), .int .i64 (Fc.hi f), .slice lad (List.length ([] : List Fc)) lcap, .int .i64 (Pc.kind x), str (Pc.a x), str (Pc.b x), str (Pc.c x), str (Pc.r x), str (Pc.s x), str (Pc.t x), .int .i64 (Pc.lo x), .int .i64 (Pc.hi x), .int .i64 (Pc.frm x)]] [] [bU_ vb (.cells (cE_ pv ab fv).toArray 83 (0, 0)), bU_ ab (.map es ec), aQ_ lad (List.flatMap Fc.cells ([] : List Fc))] (fun _ : Unit => .bool (le_ kn x f zfc zfc)) (fun _ => []) (fun _ => []) := by
  refine T_ Tryz.func139 rfl rfl Tryz.ntmps139 rfl fun v0 => ?_
  refine g_ (c_ (aN_ rfl rfl fun b1 => ?_))
  refine a_ (e_ rfl) rfl (d_ (b_ rfl (g_ ?_)))
  refine aJ_ (by kernel_rfl) ?_
  refine M_ 15 [0, 1, 2, 3, 4, 5, 6, 7, 8, 9] (by kernel_rfl) (fun _ a b => ⟨a, b⟩) (j_ rfl (h_ i_ rfl rfl rfl Tryz.sizeOf74) rfl (j_ rfl (m_ 0 Tryz.isAgg74 rfl rfl rfl) rfl (j_ rfl (aY_ rfl) rfl (j_ rfl (h_ bb_ rfl rfl rfl oQ_) rfl (j_ rfl (cS_ Tryz.isAgg77 rfl (fun v _ h => by exact h.1) rfl) rfl (j_ rfl (h_ i_ rfl rfl rfl k_) rfl (j_ rfl (h_ o_ rfl rfl rfl w_) rfl (j_ rfl (m_ 0 F_ rfl rfl rfl) rfl ?_))))))))
  refine bo_ rfl (gk_ hkn (eS_ (k := (Fc.a f)) il_ dQ_ Tryz.zeroValue4 rfl rfl hE (fun v _ h => (by exact h.2.1 : (bU_ ab (.map es ec)).p v).2))) rfl fun r1 hr1 => ?_
  refine j_ rfl (f_ rfl) rfl (L_ ?_)
  cases r1
  · skip
    refine M_ 0 [10, 11, 12, 13, 14, 15, 16, 17, 18, 19, 20, 21, 22, 23, 24] (by kernel_rfl) (fun _ a b => ⟨a, b⟩) (v_ rfl rfl rfl rfl rfl (v_ rfl rfl rfl rfl rfl (v_ rfl rfl rfl rfl rfl (v_ rfl rfl rfl rfl rfl (v_ rfl rfl rfl rfl rfl (v_ rfl rfl rfl rfl rfl (v_ rfl rfl rfl rfl rfl (v_ rfl rfl rfl rfl rfl (v_ rfl rfl rfl rfl rfl ?_)))))))))
    refine v_ rfl rfl rfl rfl rfl (v_ rfl rfl rfl rfl rfl (v_ rfl rfl rfl rfl rfl (v_ rfl rfl rfl rfl rfl (j_ rfl (t_ rfl rfl) rfl (j_ rfl (e_ rfl) rfl (L_ (S_ (by kernel_rfl) (b_ rfl (u_ ?_)))))))))
    exact Y_ Tryz.results139 () (s_ rfl (by simp only [le_, hr1, if_true, if_false, decide_true, decide_false, Bool.and_true, Bool.and_false, Bool.true_and, Bool.false_and, Bool.or_true, Bool.or_false, Bool.true_or, Bool.false_or, Bool.not_true, Bool.not_false, ne_eq, not_true_eq_false, not_false_eq_true, true_and, and_true, false_and, and_false, true_or, or_true, false_or, or_false, ite_true, ite_false, Bool.false_eq_true])) C_ (fun _ _ _ => trivial)
  · skip
    refine M_ 4 [10, 11, 12, 13, 14, 15, 16, 17, 18, 19, 20] (by kernel_rfl) (fun _ a b => ⟨a, b⟩) (p_ rfl rfl rfl (h_ i_ rfl rfl rfl k_) rfl (p_ rfl rfl rfl (P_ 0 R_ k_ rfl rfl rfl) rfl (p_ rfl rfl rfl (h_ i_ rfl rfl rfl k_) rfl (p_ rfl rfl rfl (h_ o_ rfl rfl rfl w_) rfl (p_ rfl rfl rfl (m_ 0 F_ rfl rfl rfl) rfl (p_ rfl rfl rfl (h_ i_ rfl rfl rfl aj_) rfl (p_ rfl rfl rfl (h_ O_ rfl rfl rfl w_) rfl (p_ rfl rfl rfl (m_ 0 F_ rfl rfl rfl) rfl (p_ rfl rfl rfl (h_ i_ rfl rfl rfl k_) rfl ?_)))))))))
    refine p_ rfl rfl rfl (h_ o_ rfl rfl rfl w_) rfl (p_ rfl rfl rfl (m_ 0 F_ rfl rfl rfl) rfl (L_ (I_ 21 rfl (by kernel_rfl) (l_ rfl rfl (Q_ (dw_ (Fc.a f) (Pc.r x) (Fc.a f)) rfl C_ (fun _ _ _ => by exact trivial) rfl fun _ => ?_)))))
    refine d_ (q_ rfl (A_ (fun _ a b => ⟨a, b⟩) (M_ 0 [22, 23, 24] (by kernel_rfl) (fun _ a b => ⟨a, b⟩) ?_)))
    refine at_ rfl rfl rfl (aq_ (p := f) (q := (bq_ (Fc.a f) (Pc.r x) (Fc.a f))) rfl rfl) rfl fun r2 hr2 => ?_
    refine j_ rfl (B_ rfl rfl) rfl (j_ rfl (e_ rfl) rfl (L_ (S_ (by kernel_rfl) (b_ rfl (u_ ?_)))))
    exact Y_ Tryz.results139 () (s_ rfl (by rw [← hr2]; simp only [le_, hr1, if_true, if_false, decide_true, decide_false, Bool.and_true, Bool.and_false, Bool.true_and, Bool.false_and, Bool.or_true, Bool.or_false, Bool.true_or, Bool.false_or, Bool.not_true, Bool.not_false, ne_eq, not_true_eq_false, not_false_eq_true, true_and, and_true, false_and, and_false, true_or, or_true, false_or, or_false, ite_true, ite_false, Bool.false_eq_true])) C_ (fun _ _ _ => trivial)
set_option maxHeartbeats 1000000 in
theorem mU_ (kn : Str → Bool) (q : List Str) (hkn : ∀ s, kn s = true ↔ s ∈ q) (es : Array MapEntry) (ec : Nat) (hE : SetE str es q) (vb ab : Nat) (pv fv : Value) (x : Pc) (f ga : Fc) (lad : Option Addr) (lcap : Nat) : Tri Tryz.prog 140 #[.agg #[zp_ vb 0, .int .i64 (Fc.kind f), str (Fc.a f), str (Fc.b f), str (Fc.r f), .int .i64 (Fc.lo f), .int .i64 (Fc.hi f), .slice lad (List.length [ga]) lcap, .int .i64 (Pc.kind x), str (Pc.a x), str (Pc.b x), str (Pc.c x), str (Pc.r x), str (Pc.s x), str (Pc.t x), .int .i64 (Pc.lo x), .int .i64 (Pc.hi x), .int .i64 (Pc.frm x)]] [] [bU_ vb (.cells (cE_ pv ab fv).toArray 83 (0, 0)), bU_ ab (.map es ec), aQ_ lad (List.flatMap Fc.cells [ga])] (fun _ : Unit => .bool (ld_ kn x f ga zfc)) (fun _ => []) (fun _ => []) := by
  refine T_ Tryz.func140 rfl rfl Tryz.ntmps140 rfl fun v0 => ?_
  refine g_ (c_ (aN_ rfl rfl fun b1 => ?_))
  refine a_ (e_ rfl) rfl (d_ (b_ rfl (g_ ?_)))
  refine aJ_ (by kernel_rfl) ?_
  refine M_ 21 [0, 1, 2, 3, 4, 5, 6, 7, 8, 9] (by kernel_rfl) (fun _ a b => ⟨a, b⟩) (j_ rfl (h_ i_ rfl rfl rfl aF_) rfl (j_ rfl (m_ 0 bc_ rfl rfl rfl) rfl (j_ rfl (ah_ ag_ k_ rfl rfl (fun v _ h => aM_ (n := 6) Fc.cells_len (by decide) (by exact h.2.2.1) (show [ga][0]? = some _ from rfl)) (by omega) (by first | omega | (simp; done))) rfl (j_ rfl (aK_ (ad := lad) (us := Fc.cells ga) R_ k_ rfl (fun v _ h => by exact h.2.2.1) (Fc.cells_len _) (ak_ Fc.cells_len (show [ga][0]? = some _ from rfl))) rfl (j_ rfl (h_ i_ rfl rfl rfl k_) rfl (j_ rfl (h_ o_ rfl rfl rfl w_) rfl (j_ rfl (m_ 0 F_ rfl rfl rfl) rfl (j_ rfl (h_ i_ rfl rfl rfl aj_) rfl (j_ rfl (h_ O_ rfl rfl rfl w_) rfl ?_)))))))))
  refine j_ rfl (m_ 0 F_ rfl rfl rfl) rfl (L_ (I_ 10 rfl (by kernel_rfl) (Q_ (bw_ (Fc.a f) (Pc.a x)) rfl C_ (fun _ _ _ => by exact trivial) rfl fun _ => ?_)))
  refine d_ (q_ rfl (A_ (fun _ a b => ⟨a, b⟩) (M_ 18 [11, 12] (by kernel_rfl) (fun _ a b => ⟨a, b⟩) ?_)))
  refine bo_ rfl (aq_ (p := ga) (q := (aE_ (Fc.a f) (Pc.a x))) rfl rfl) rfl fun r1 hr1 => ?_
  refine j_ rfl (f_ rfl) rfl (L_ ?_)
  cases r1
  · skip
    replace hr1 := of_decide_eq_false hr1
    refine M_ 0 [13, 14, 15, 16, 17, 18, 19, 20, 21, 22, 23, 24, 25, 26, 27, 28, 29, 30] (by kernel_rfl) (fun _ a b => ⟨a, b⟩) (v_ rfl rfl rfl rfl rfl (v_ rfl rfl rfl rfl rfl (v_ rfl rfl rfl rfl rfl (v_ rfl rfl rfl rfl rfl (v_ rfl rfl rfl rfl rfl (v_ rfl rfl rfl rfl rfl (v_ rfl rfl rfl rfl rfl (v_ rfl rfl rfl rfl rfl (v_ rfl rfl rfl rfl rfl ?_)))))))))
    refine v_ rfl rfl rfl rfl rfl (v_ rfl rfl rfl rfl rfl (v_ rfl rfl rfl rfl rfl (v_ rfl rfl rfl rfl rfl (v_ rfl rfl rfl rfl rfl (v_ rfl rfl rfl rfl rfl (v_ rfl rfl rfl rfl rfl (j_ rfl (t_ rfl rfl) rfl (j_ rfl (e_ rfl) rfl (L_ ?_)))))))))
    refine S_ (by kernel_rfl) (b_ rfl (u_ ?_))
    exact Y_ Tryz.results140 () (s_ rfl (by have p1 := eq_false hr1; simp only [ld_, p1, if_true, if_false, decide_true, decide_false, Bool.and_true, Bool.and_false, Bool.true_and, Bool.false_and, Bool.or_true, Bool.or_false, Bool.true_or, Bool.false_or, Bool.not_true, Bool.not_false, ne_eq, not_true_eq_false, not_false_eq_true, true_and, and_true, false_and, and_false, true_or, or_true, false_or, or_false, ite_true, ite_false, Bool.false_eq_true])) C_ (fun _ _ _ => trivial)
  · skip
    replace hr1 := of_decide_eq_true hr1
    refine M_ 4 [13, 14, 15, 16, 17, 18, 19, 20, 21, 22, 23, 24, 25, 26] (by kernel_rfl) (fun _ a b => ⟨a, b⟩) (p_ rfl rfl rfl (h_ i_ rfl rfl rfl k_) rfl (p_ rfl rfl rfl (P_ 0 R_ k_ rfl rfl rfl) rfl (p_ rfl rfl rfl (h_ i_ rfl rfl rfl k_) rfl (p_ rfl rfl rfl (h_ o_ rfl rfl rfl w_) rfl (p_ rfl rfl rfl (m_ 0 F_ rfl rfl rfl) rfl (p_ rfl rfl rfl (h_ i_ rfl rfl rfl aj_) rfl (p_ rfl rfl rfl (h_ O_ rfl rfl rfl w_) rfl (p_ rfl rfl rfl (m_ 0 F_ rfl rfl rfl) rfl (p_ rfl rfl rfl (h_ i_ rfl rfl rfl aj_) rfl ?_)))))))))
    refine p_ rfl rfl rfl (h_ O_ rfl rfl rfl r_) rfl (p_ rfl rfl rfl (m_ 0 y_ rfl rfl rfl) rfl (p_ rfl rfl rfl (h_ i_ rfl rfl rfl aj_) rfl (p_ rfl rfl rfl (h_ O_ rfl rfl rfl r_) rfl (p_ rfl rfl rfl (m_ 0 y_ rfl rfl rfl) rfl (L_ (I_ 27 rfl (by kernel_rfl) (l_ rfl rfl (Q_ (dI_ (Fc.a f) (Pc.r x) (Pc.lo x) (Pc.hi x)) rfl C_ (fun _ _ _ => by exact trivial) rfl fun _ => ?_))))))))
    refine d_ (q_ rfl (A_ (fun _ a b => ⟨a, b⟩) (M_ 0 [28, 29, 30] (by kernel_rfl) (fun _ a b => ⟨a, b⟩) ?_)))
    refine at_ rfl rfl rfl (aq_ (p := f) (q := (ai_ (Fc.a f) (Pc.r x) (Pc.lo x) (Pc.hi x))) rfl rfl) rfl fun r2 hr2 => ?_
    refine j_ rfl (B_ rfl rfl) rfl (j_ rfl (e_ rfl) rfl (L_ (S_ (by kernel_rfl) (b_ rfl (u_ ?_)))))
    exact Y_ Tryz.results140 () (s_ rfl (by have p1 := eq_true hr1; rw [← hr2]; simp only [ld_, p1, if_true, if_false, decide_true, decide_false, Bool.and_true, Bool.and_false, Bool.true_and, Bool.false_and, Bool.or_true, Bool.or_false, Bool.true_or, Bool.false_or, Bool.not_true, Bool.not_false, ne_eq, not_true_eq_false, not_false_eq_true, true_and, and_true, false_and, and_false, true_or, or_true, false_or, or_false, ite_true, ite_false, Bool.false_eq_true])) C_ (fun _ _ _ => trivial)
set_option maxHeartbeats 1000000 in
theorem mQ_ (kn : Str → Bool) (q : List Str) (hkn : ∀ s, kn s = true ↔ s ∈ q) (es : Array MapEntry) (ec : Nat) (hE : SetE str es q) (vb ab : Nat) (pv fv : Value) (x : Pc) (f ga : Fc) (lad : Option Addr) (lcap : Nat) : Tri Tryz.prog 144 #[.agg #[zp_ vb 0, .int .i64 (Fc.kind f), str (Fc.a f), str (Fc.b f), str (Fc.r f), .int .i64 (Fc.lo f), .int .i64 (Fc.hi f), .slice lad (List.length [ga]) lcap, .int .i64 (Pc.kind x), str (Pc.a x), str (Pc.b x), str (Pc.c x), str (Pc.r x), str (Pc.s x), str (Pc.t x), .int .i64 (Pc.lo x), .int .i64 (Pc.hi x), .int .i64 (Pc.frm x)]] [] [bU_ vb (.cells (cE_ pv ab fv).toArray 83 (0, 0)), bU_ ab (.map es ec), aQ_ lad (List.flatMap Fc.cells [ga])] (fun _ : Unit => .bool (nf_ kn x f ga zfc)) (fun _ => []) (fun _ => []) := by
  refine T_ Tryz.func144 rfl rfl Tryz.ntmps144 rfl fun v0 => ?_
  refine g_ (c_ (aN_ rfl rfl fun b1 => ?_))
  refine a_ (e_ rfl) rfl (d_ (b_ rfl (g_ ?_)))
  refine aJ_ (by kernel_rfl) ?_
  refine M_ 3 [0, 1, 2, 3, 4, 5, 6] (by kernel_rfl) (fun _ a b => ⟨a, b⟩) (j_ rfl (h_ i_ rfl rfl rfl aF_) rfl (j_ rfl (m_ 0 bc_ rfl rfl rfl) rfl (j_ rfl (ah_ ag_ k_ rfl rfl (fun v _ h => aM_ (n := 6) Fc.cells_len (by decide) (by exact h.2.2.1) (show [ga][0]? = some _ from rfl)) (by omega) (by first | omega | (simp; done))) rfl (j_ rfl (aK_ (ad := lad) (us := Fc.cells ga) R_ k_ rfl (fun v _ h => by exact h.2.2.1) (Fc.cells_len _) (ak_ Fc.cells_len (show [ga][0]? = some _ from rfl))) rfl (j_ rfl (h_ i_ rfl rfl rfl k_) rfl (j_ rfl (h_ o_ rfl rfl rfl w_) rfl (j_ rfl (m_ 0 F_ rfl rfl rfl) rfl (L_ (I_ 7 rfl (by kernel_rfl) ?_)))))))))
  refine Q_ (bw_ (Fc.a f) [33]) rfl C_ (fun _ _ _ => by exact trivial) rfl fun _ => ?_
  refine d_ (q_ rfl (A_ (fun _ a b => ⟨a, b⟩) (M_ 0 [8, 9] (by kernel_rfl) (fun _ a b => ⟨a, b⟩) ?_)))
  refine bo_ rfl (aq_ (p := ga) (q := (aE_ (Fc.a f) [33])) rfl rfl) rfl fun r1 hr1 => ?_
  refine j_ rfl (e_ rfl) rfl (L_ (S_ (by kernel_rfl) (b_ rfl (u_ ?_))))
  exact Y_ Tryz.results144 () (s_ rfl (by rw [← hr1]; simp only [nf_, if_true, if_false, decide_true, decide_false, Bool.and_true, Bool.and_false, Bool.true_and, Bool.false_and, Bool.or_true, Bool.or_false, Bool.true_or, Bool.false_or, Bool.not_true, Bool.not_false, ne_eq, not_true_eq_false, not_false_eq_true, true_and, and_true, false_and, and_false, true_or, or_true, false_or, or_false, ite_true, ite_false, Bool.false_eq_true])) C_ (fun _ _ _ => trivial)
end Go.Proofs.YtaffcjgphlhppaaGreatDoor
namespace Go.Proofs.YtaffcjgphlhppaaGreatDoor
open Go Go.Sx Go.Proofs
attribute [local irreducible] Code.wp wpList wpAnyH
open Go.Vs
theorem kQ_ : gw_ Tryz.prog 243 [(0, 1)] [.nilFunc] := ⟨_, Tryz.zeroValue243, Tryz.runUnderlying243, fun w => by simp [Tryz.sizeOf241]⟩
theorem ivG_c (a b : Int) : Fn0 Tryz.prog 242 #[.int .i64 a, .int .i64 b] (.bool (decide (b < a))) := by
  refine T_ Tryz.func242 rfl rfl Tryz.ntmps242 rfl fun v0 => ?_
  refine g_ (c_ (a_ (e_ rfl) rfl (d_ (b_ rfl (g_ (c_ (a_ (f_ rfl) rfl (a_ (f_ rfl) rfl (E_ (bv_ rfl rfl) rfl fun r1 hr1 => ?_)))))))))
  refine a_ (e_ rfl) rfl (d_ (b_ rfl (u_ ?_)))
  exact Y_ Tryz.results242 () (s_ rfl (hr1).symm) C_ (fun _ _ _ => trivial)
theorem ivL_c (a b : Int) : Fn0 Tryz.prog 243 #[.int .i64 a, .int .i64 b] (.bool (decide (a < b))) := by
  refine T_ Tryz.func243 rfl rfl Tryz.ntmps243 rfl fun v0 => ?_
  refine g_ (c_ (a_ (e_ rfl) rfl (d_ (b_ rfl (g_ (c_ (a_ (f_ rfl) rfl (a_ (f_ rfl) rfl (E_ (au_ rfl rfl) rfl fun r1 hr1 => ?_)))))))))
  refine a_ (e_ rfl) rfl (d_ (b_ rfl (u_ ?_)))
  exact Y_ Tryz.results243 () (s_ rfl (hr1).symm) C_ (fun _ _ _ => trivial)
theorem ivGr_c : Fn0 Tryz.prog 209 #[] (.agg #[.func (.func 242) #[] #[]]) := by
  refine T_ Tryz.func209 rfl rfl Tryz.ntmps209 rfl fun v0 => ?_
  refine g_ (c_ (ae_ Tryz.zeroValue243 rfl fun b1 => ?_))
  refine d_ (b_ rfl (g_ (c_ (a_ (az_ kQ_ rfl rfl) rfl (X_ 0 Tryz.sizeOf243 rfl rfl rfl rfl rfl rfl (d_ (b_ rfl (u_ ?_))))))))
  exact fz_ () (fun aa v h1 h2 => ck_ (us := [.func (.func 242) #[] #[]]) 0 Tryz.results209 Tryz.isAgg243 Tryz.sizeOf243 rfl rfl rfl aa v h1 h2) C_ (fun _ _ _ => trivial)
theorem ivLe_c : Fn0 Tryz.prog 211 #[] (.agg #[.func (.func 243) #[] #[]]) := by
  refine T_ Tryz.func211 rfl rfl Tryz.ntmps211 rfl fun v0 => ?_
  refine g_ (c_ (ae_ Tryz.zeroValue243 rfl fun b1 => ?_))
  refine d_ (b_ rfl (g_ (c_ (a_ (az_ kQ_ rfl rfl) rfl (X_ 0 Tryz.sizeOf243 rfl rfl rfl rfl rfl rfl (d_ (b_ rfl (u_ ?_))))))))
  exact fz_ () (fun aa v h1 h2 => ck_ (us := [.func (.func 243) #[] #[]]) 0 Tryz.results211 Tryz.isAgg243 Tryz.sizeOf243 rfl rfl rfl aa v h1 h2) C_ (fun _ _ _ => trivial)
theorem op_ (a b : Int) : Fn0 Tryz.prog 210 #[.agg #[.func (.func 242) #[] #[]], .int .i64 a, .int .i64 b] (.int .i64 (max a b)) := by
  refine T_ Tryz.func210 rfl rfl Tryz.ntmps210 rfl fun v0 => ?_
  refine g_ (c_ (aN_ rfl rfl fun b1 => ?_))
  refine a_ (e_ rfl) rfl (d_ (b_ rfl (g_ (g_ (c_ (a_ (h_ Tryz.runUnderlying243 rfl rfl rfl Tryz.sizeOf241) rfl (a_ (m_ 0 Tryz.isAgg241 rfl rfl rfl) rfl (a_ (f_ rfl) rfl (a_ (f_ rfl) rfl ?_)))))))))
  refine bE_ (ivG_c a b) rfl rfl C_ (fun _ _ _ => by exact trivial) rfl fun r1 hr1 => ?_
  refine d_ (b_ rfl ?_)
  cases r1
  · skip
    replace hr1 := of_decide_eq_false hr1
    refine z_ rfl (J_ (b_ rfl (g_ (c_ (a_ (f_ rfl) rfl (a_ (e_ rfl) rfl (d_ (b_ rfl (u_ ?_)))))))))
    exact Y_ Tryz.results210 () (aC_ rfl (by omega)) C_ (fun _ _ _ => trivial)
  · skip
    replace hr1 := of_decide_eq_true hr1
    refine x_ rfl (g_ (c_ (a_ (f_ rfl) rfl (a_ (e_ rfl) rfl (d_ (b_ rfl (u_ ?_)))))))
    exact Y_ Tryz.results210 () (aC_ rfl (by omega)) C_ (fun _ _ _ => trivial)
theorem oo_ (a b : Int) : Fn0 Tryz.prog 210 #[.agg #[.func (.func 243) #[] #[]], .int .i64 a, .int .i64 b] (.int .i64 (min a b)) := by
  refine T_ Tryz.func210 rfl rfl Tryz.ntmps210 rfl fun v0 => ?_
  refine g_ (c_ (aN_ rfl rfl fun b1 => ?_))
  refine a_ (e_ rfl) rfl (d_ (b_ rfl (g_ (g_ (c_ (a_ (h_ Tryz.runUnderlying243 rfl rfl rfl Tryz.sizeOf241) rfl (a_ (m_ 0 Tryz.isAgg241 rfl rfl rfl) rfl (a_ (f_ rfl) rfl (a_ (f_ rfl) rfl ?_)))))))))
  refine bE_ (ivL_c a b) rfl rfl C_ (fun _ _ _ => by exact trivial) rfl fun r1 hr1 => ?_
  refine d_ (b_ rfl ?_)
  cases r1
  · skip
    replace hr1 := of_decide_eq_false hr1
    refine z_ rfl (J_ (b_ rfl (g_ (c_ (a_ (f_ rfl) rfl (a_ (e_ rfl) rfl (d_ (b_ rfl (u_ ?_)))))))))
    exact Y_ Tryz.results210 () (aC_ rfl (by omega)) C_ (fun _ _ _ => trivial)
  · skip
    replace hr1 := of_decide_eq_true hr1
    refine x_ rfl (g_ (c_ (a_ (f_ rfl) rfl (a_ (e_ rfl) rfl (d_ (b_ rfl (u_ ?_)))))))
    exact Y_ Tryz.results210 () (aC_ rfl (by omega)) C_ (fun _ _ _ => trivial)
def mY_ (i : Int × Int) : Prop := -1099511627776 ≤ i.1 ∧ i.1 ≤ i.2 ∧ i.2 ≤ 1099511627776
theorem lH_ {a b : Int × Int} (ha : mY_ a) (hb : mY_ b) : dE_ [a, b] = 0 := by
  have e : ∀ i : Int × Int, mY_ i → dx_ i = 0 := fun i h => by
    obtain ⟨h1, h2, h3⟩ := h
    unfold dx_; rw [if_neg (by omega), if_neg (by omega)]
  simp [dE_, fD_, e a ha, e b hb]
def dX_ (i j : Int × Int) : (Int × Int) × Int := if max i.1 j.1 ≤ min i.2 j.2 then ((max i.1 j.1, min i.2 j.2), 0) else ((0, 0), 80)
theorem mE_ {P : Program} {N : Nat} {fr : Fr} {H : Hp} {fn : Func} {t s b n : Nat} {ty T : TypeId} {us : List Value} {u : Value} (i : Nat) (hr : fn.results = #[.cell t ty, .tmp s]) (ha : ∀ w, (isAgg ty).run P w = .ok true w) (hs : ∀ w, (sizeOf ty).run P w = .ok n w) (hn : us.length = n) (hx : Fr.get fr t = some (zp_ b 0)) (hu : Fr.get fr s = some u)
    (hi : H[i]? = some (b, .cells us.toArray T (0, 0))) (a : Act) (v : Vw) (h1 : Fr.sat N fr a) (h2 : v.sat H) : (results fn a.tmps).run P v.w = .ok (.tuple #[.agg us.toArray, u]) v.w := by
  have e := h1.val t _ hx
  have e' := h1.val s _ hu
  have hl := cr_ (t := ty) (w := v.w) (b := b) (off := 0) ha hs hn (fun j y hj => by rw [Nat.zero_add, dS_ h2 hi]; simpa using hj)
  simp [results, hr, e, e', asAddr, hl]
theorem fZ_ (i j : Int × Int) (hi : mY_ i) (hj : mY_ j) : Tri Tryz.prog 182 #[ivV i, ivV j] [] [] (fun y : {y : (Int × Int) × Int // y = dX_ i j} => .tuple #[ivV y.1.1, .int .i64 y.1.2]) (fun _ => []) (fun _ => []) := by
  refine T_ Tryz.func182 rfl rfl Tryz.ntmps182 rfl fun v0 => ?_
  refine g_ (c_ (aN_ rfl rfl fun b1 => ?_))
  refine aN_ rfl rfl fun b2 => ?_
  refine ae_ ar_ rfl fun b3 => ?_
  refine a_ (e_ rfl) rfl (d_ (b_ rfl (g_ (g_ (c_ (a_ (P_ 2 bT_ Z_ rfl rfl rfl) rfl (a_ (P_ 1 bT_ Z_ rfl rfl rfl) rfl (aW_ lu_ Z_ ar_ rfl rfl rfl rfl rfl rfl fun b4 => ?_))))))))
  refine by_ (List.flatMap ivC [i, j]) D_ rfl ?_
  refine Q_ (lc_ [i, j] (some ⟨b4, 0, none⟩) 2 (by simp)) rfl C_ (fun v _ h => by exact ⟨h.1, trivial⟩) rfl fun _ => ?_
  refine a_ (e_ rfl) rfl (d_ (b_ rfl (g_ (c_ (a_ (f_ rfl) rfl (E_ (bB_ rfl rfl) rfl fun r1 hr1 => ?_))))))
  refine d_ (b_ rfl ?_)
  cases r1
  · skip
    replace hr1 := bD_ hr1
    refine z_ rfl (J_ (b_ rfl (g_ ?_)))
    refine cs_ ((b2, .cells #[.int .i64 (Prod.fst j), .int .i64 (Prod.snd j)] 196 (0, 0)) :: ((b1, .cells #[.int .i64 (Prod.fst i), .int .i64 (Prod.snd i)] 196 (0, 0)) :: [])) (by kernel_rfl) ?_
    refine M_ 6 [1, 2, 3, 4, 7, 8, 9, 10] (by kernel_rfl) (fun _ a b => ⟨a.tail, b⟩) (j_ rfl (h_ G_ rfl rfl rfl r_) rfl (j_ rfl (m_ 1 y_ rfl rfl rfl) rfl (j_ rfl (h_ G_ rfl rfl rfl r_) rfl (j_ rfl (m_ 0 y_ rfl rfl rfl) rfl (j_ rfl (h_ G_ rfl rfl rfl r_) rfl (j_ rfl (m_ 1 y_ rfl rfl rfl) rfl (j_ rfl (h_ G_ rfl rfl rfl r_) rfl (j_ rfl (m_ 0 y_ rfl rfl rfl) rfl (L_ ?_)))))))))
    refine I_ 0 rfl (by kernel_rfl) (Q_ (ivGr_c) rfl C_ (fun _ _ _ => by exact trivial) rfl fun _ => ?_)
    refine d_ (q_ rfl (A_ (fun _ a b => ⟨a.tail, b⟩) (I_ 5 rfl (by kernel_rfl) (Q_ (op_ (Prod.fst i) (Prod.fst j)) rfl C_ (fun _ _ _ => by exact trivial) rfl fun _ => ?_))))
    refine d_ (q_ rfl (A_ (fun _ a b => ⟨a.tail, b⟩) (I_ 6 rfl (by kernel_rfl) (Q_ (ivLe_c) rfl C_ (fun _ _ _ => by exact trivial) rfl fun _ => ?_))))
    refine d_ (q_ rfl (A_ (fun _ a b => ⟨a.tail, b⟩) (I_ 11 rfl (by kernel_rfl) (Q_ (oo_ (Prod.snd i) (Prod.snd j)) rfl C_ (fun _ _ _ => by exact trivial) rfl fun _ => ?_))))
    refine d_ (q_ rfl (A_ (fun _ a b => ⟨a.tail, b⟩) (M_ 1 [12] (by kernel_rfl) (fun _ a b => ⟨a.tail, b⟩) (j_ rfl (az_ eF_ rfl rfl) rfl (L_ (I_ 13 rfl (by kernel_rfl) (X_ 0 Z_ rfl rfl rfl rfl rfl rfl (d_ (q_ rfl ?_)))))))))
    refine A_ (fun _ a b => ⟨a.tail, b⟩) (S_ (by kernel_rfl) (b_ rfl (g_ (g_ (c_ (a_ (h_ G_ rfl rfl rfl r_) rfl (a_ (m_ 0 y_ rfl rfl rfl) rfl (a_ (h_ G_ rfl rfl rfl r_) rfl (a_ (m_ 0 y_ rfl rfl rfl) rfl ?_)))))))))
    refine E_ (bv_ rfl rfl) rfl fun r2 hr2 => ?_
    refine d_ (b_ rfl ?_)
    cases r2
    · skip
      replace hr2 := of_decide_eq_false hr2
      refine z_ rfl (J_ (b_ rfl (g_ (c_ (a_ (P_ 0 bT_ Z_ rfl rfl rfl) rfl (X_ 0 Z_ rfl rfl rfl rfl rfl rfl (a_ (e_ rfl) rfl (d_ (b_ rfl ?_)))))))))
      refine u_ ?_
      have hz : dX_ i j = (((max (Prod.fst i) (Prod.fst j)), (min (Prod.snd i) (Prod.snd j))), 0) := by unfold dX_; first | rw [if_pos (by omega)] | rw [if_neg (by omega)]
      exact fz_ ⟨dX_ i j, rfl⟩ (fun aa v h1 h2 => by rw [hz]; exact mE_ 0 Tryz.results182 bT_ Z_ rfl rfl rfl rfl aa v h1 h2) C_ (fun _ _ _ => trivial)
    · skip
      replace hr2 := of_decide_eq_true hr2
      refine x_ rfl (g_ (c_ (a_ (az_ eF_ rfl rfl) rfl (X_ 0 Z_ rfl rfl rfl rfl rfl rfl (a_ (e_ rfl) rfl (d_ (b_ rfl (u_ ?_))))))))
      have hz : dX_ i j = ((0, 0), 80) := by unfold dX_; first | rw [if_pos (by omega)] | rw [if_neg (by omega)]
      exact fz_ ⟨dX_ i j, rfl⟩ (fun aa v h1 h2 => by rw [hz]; exact mE_ 0 Tryz.results182 bT_ Z_ rfl rfl rfl rfl aa v h1 h2) C_ (fun _ _ _ => trivial)
  · skip
    replace hr1 := bC_ hr1
    exfalso; exact hr1 (lH_ hi hj)
theorem ik_ (feat : Str) (kn : Str → Bool) (q : List Str) (hkn : ∀ s, kn s = true ↔ s ∈ q) (es : Array MapEntry) (ec : Nat) (hE : SetE str es q) (vb ab : Nat) (pv fv : Value) (x : Pc) (f ga : Fc) (lad : Option Addr) (lcap : Nat) : TriX Tryz.prog 183 #[.agg #[zp_ vb 0, .int .i64 (Fc.kind f), str (Fc.a f), str (Fc.b f), str (Fc.r f), .int .i64 (Fc.lo f), .int .i64 (Fc.hi f), .slice lad (List.length [ga]) lcap, .int .i64 (Pc.kind x), str (Pc.a x), str (Pc.b x), str (Pc.c x), str (Pc.r x), str (Pc.s x), str (Pc.t x), .int .i64 (Pc.lo x), .int .i64 (Pc.hi x), .int .i64 (Pc.frm x)], .int .i64 0, str feat] [] [bU_ vb (.cells (cE_ pv ab fv).toArray 83 (0, 0)), bU_ ab (.map es ec), aQ_ lad (List.flatMap Fc.cells [ga])] (fun _ : {u : Unit // ga = ai_ (Fc.a f) feat (Fc.lo ga) (Fc.hi ga)} => .agg #[.int .i64 (Fc.lo ga), .int .i64 (Fc.hi ga)]) (fun _ => []) (fun _ => []) (¬ ga = ai_ (Fc.a f) feat (Fc.lo ga) (Fc.hi ga)) := by
  refine bf_ Tryz.func183 rfl rfl Tryz.ntmps183 rfl fun v0 => ?_
  refine g_ (c_ (aN_ rfl rfl fun b1 => ?_))
  refine ae_ ar_ rfl fun b2 => ?_
  refine d_ (b_ rfl (g_ (c_ (a_ (h_ i_ rfl rfl rfl aF_) rfl (a_ (m_ 1 bc_ rfl rfl rfl) rfl (a_ (f_ rfl) rfl (a_ (ah_ ag_ k_ rfl rfl (fun v _ h => aM_ (n := 6) Fc.cells_len (by decide) (by exact h.2.2.1) (show [ga][0]? = some _ from rfl)) (by omega) (by first | omega | (simp; done))) rfl (a_ (aK_ (ad := lad) (us := Fc.cells ga) R_ k_ rfl (fun v _ h => by exact h.2.2.1) (Fc.cells_len _) (ak_ Fc.cells_len (show [ga][0]? = some _ from rfl))) rfl (ae_ ba_ rfl fun b3 => ?_)))))))))
  refine X_ 0 k_ rfl rfl rfl rfl rfl rfl (d_ (b_ rfl (g_ ?_)))
  refine aJ_ (by kernel_rfl) ?_
  refine M_ 3 [0, 1, 2, 3, 4, 5, 6, 7, 8] (by kernel_rfl) (fun _ a b => ⟨a, b⟩) (j_ rfl (P_ 0 R_ k_ rfl rfl rfl) rfl (j_ rfl (h_ i_ rfl rfl rfl k_) rfl (j_ rfl (h_ o_ rfl rfl rfl w_) rfl (j_ rfl (m_ 2 F_ rfl rfl rfl) rfl (j_ rfl (f_ rfl) rfl (j_ rfl (h_ o_ rfl rfl rfl r_) rfl (j_ rfl (m_ 0 y_ rfl rfl rfl) rfl (j_ rfl (h_ o_ rfl rfl rfl r_) rfl (j_ rfl (m_ 0 y_ rfl rfl rfl) rfl ?_)))))))))
  refine L_ (I_ 9 rfl (by kernel_rfl) (Q_ (dI_ (Fc.a f) feat (Fc.lo ga) (Fc.hi ga)) rfl C_ (fun _ _ _ => by exact trivial) rfl fun _ => ?_))
  refine d_ (q_ rfl (A_ (fun _ a b => ⟨a, b⟩) (M_ 1 [10] (by kernel_rfl) (fun _ a b => ⟨a, b⟩) ?_)))
  refine bo_ rfl (aq_ (p := ga) (q := (ai_ (Fc.a f) feat (Fc.lo ga) (Fc.hi ga))) rfl rfl) rfl fun r1 hr1 => ?_
  refine L_ (I_ 11 rfl (by kernel_rfl) (an_ (cM_ r1) rfl C_ (fun _ _ _ => by exact trivial) rfl (fun hb => cg_ ((by rw [hb] at hr1; exact of_decide_eq_false hr1))) fun ⟨_, hn1⟩ => ?_))
  try dsimp only
  have hspn : ga = ai_ (Fc.a f) feat (Fc.lo ga) (Fc.hi ga) := of_decide_eq_true (hr1.trans hn1)
  refine d_ (q_ rfl (A_ (fun _ a b => ⟨a, b⟩) (S_ (by kernel_rfl) (b_ rfl (g_ (c_ (a_ (h_ o_ rfl rfl rfl r_) rfl (a_ (m_ 0 y_ rfl rfl rfl) rfl (a_ (h_ o_ rfl rfl rfl r_) rfl ?_)))))))))
  refine a_ (m_ 0 y_ rfl rfl rfl) rfl (a_ (az_ eF_ rfl rfl) rfl (X_ 1 Z_ rfl rfl rfl rfl rfl rfl (d_ (b_ rfl (u_ ?_)))))
  refine bM_ ?_
  exact fz_ ⟨(), hspn⟩ (fun aa v h1 h2 => ck_ (us := [_, _]) 1 Tryz.results183 bT_ Z_ rfl rfl rfl aa v h1 h2) C_ (fun _ _ _ => trivial)
theorem dv_ (feat : Str) (kn : Str → Bool) (q : List Str) (hkn : ∀ s, kn s = true ↔ s ∈ q) (es : Array MapEntry) (ec : Nat) (hE : SetE str es q) (vb ab : Nat) (pv fv : Value) (x : Pc) (f ga gb : Fc) (lad : Option Addr) (lcap : Nat) : TriX Tryz.prog 183 #[.agg #[zp_ vb 0, .int .i64 (Fc.kind f), str (Fc.a f), str (Fc.b f), str (Fc.r f), .int .i64 (Fc.lo f), .int .i64 (Fc.hi f), .slice lad (List.length [ga, gb]) lcap, .int .i64 (Pc.kind x), str (Pc.a x), str (Pc.b x), str (Pc.c x), str (Pc.r x), str (Pc.s x), str (Pc.t x), .int .i64 (Pc.lo x), .int .i64 (Pc.hi x), .int .i64 (Pc.frm x)], .int .i64 0, str feat] [] [bU_ vb (.cells (cE_ pv ab fv).toArray 83 (0, 0)), bU_ ab (.map es ec), aQ_ lad (List.flatMap Fc.cells [ga, gb])] (fun _ : {u : Unit // ga = ai_ (Fc.a f) feat (Fc.lo ga) (Fc.hi ga)} => .agg #[.int .i64 (Fc.lo ga), .int .i64 (Fc.hi ga)]) (fun _ => []) (fun _ => []) (¬ ga = ai_ (Fc.a f) feat (Fc.lo ga) (Fc.hi ga)) := by
  refine bf_ Tryz.func183 rfl rfl Tryz.ntmps183 rfl fun v0 => ?_
  refine g_ (c_ (aN_ rfl rfl fun b1 => ?_))
  refine ae_ ar_ rfl fun b2 => ?_
  refine d_ (b_ rfl (g_ (c_ (a_ (h_ i_ rfl rfl rfl aF_) rfl (a_ (m_ 1 bc_ rfl rfl rfl) rfl (a_ (f_ rfl) rfl (a_ (ah_ ag_ k_ rfl rfl (fun v _ h => aM_ (n := 6) Fc.cells_len (by decide) (by exact h.2.2.1) (show [ga, gb][0]? = some _ from rfl)) (by omega) (by first | omega | (simp; done))) rfl (a_ (aK_ (ad := lad) (us := Fc.cells ga) R_ k_ rfl (fun v _ h => by exact h.2.2.1) (Fc.cells_len _) (ak_ Fc.cells_len (show [ga, gb][0]? = some _ from rfl))) rfl (ae_ ba_ rfl fun b3 => ?_)))))))))
  refine X_ 0 k_ rfl rfl rfl rfl rfl rfl (d_ (b_ rfl (g_ ?_)))
  refine aJ_ (by kernel_rfl) ?_
  refine M_ 3 [0, 1, 2, 3, 4, 5, 6, 7, 8] (by kernel_rfl) (fun _ a b => ⟨a, b⟩) (j_ rfl (P_ 0 R_ k_ rfl rfl rfl) rfl (j_ rfl (h_ i_ rfl rfl rfl k_) rfl (j_ rfl (h_ o_ rfl rfl rfl w_) rfl (j_ rfl (m_ 2 F_ rfl rfl rfl) rfl (j_ rfl (f_ rfl) rfl (j_ rfl (h_ o_ rfl rfl rfl r_) rfl (j_ rfl (m_ 0 y_ rfl rfl rfl) rfl (j_ rfl (h_ o_ rfl rfl rfl r_) rfl (j_ rfl (m_ 0 y_ rfl rfl rfl) rfl ?_)))))))))
  refine L_ (I_ 9 rfl (by kernel_rfl) (Q_ (dI_ (Fc.a f) feat (Fc.lo ga) (Fc.hi ga)) rfl C_ (fun _ _ _ => by exact trivial) rfl fun _ => ?_))
  refine d_ (q_ rfl (A_ (fun _ a b => ⟨a, b⟩) (M_ 1 [10] (by kernel_rfl) (fun _ a b => ⟨a, b⟩) ?_)))
  refine bo_ rfl (aq_ (p := ga) (q := (ai_ (Fc.a f) feat (Fc.lo ga) (Fc.hi ga))) rfl rfl) rfl fun r1 hr1 => ?_
  refine L_ (I_ 11 rfl (by kernel_rfl) (an_ (cM_ r1) rfl C_ (fun _ _ _ => by exact trivial) rfl (fun hb => cg_ ((by rw [hb] at hr1; exact of_decide_eq_false hr1))) fun ⟨_, hn1⟩ => ?_))
  try dsimp only
  have hspn : ga = ai_ (Fc.a f) feat (Fc.lo ga) (Fc.hi ga) := of_decide_eq_true (hr1.trans hn1)
  refine d_ (q_ rfl (A_ (fun _ a b => ⟨a, b⟩) (S_ (by kernel_rfl) (b_ rfl (g_ (c_ (a_ (h_ o_ rfl rfl rfl r_) rfl (a_ (m_ 0 y_ rfl rfl rfl) rfl (a_ (h_ o_ rfl rfl rfl r_) rfl ?_)))))))))
  refine a_ (m_ 0 y_ rfl rfl rfl) rfl (a_ (az_ eF_ rfl rfl) rfl (X_ 1 Z_ rfl rfl rfl rfl rfl rfl (d_ (b_ rfl (u_ ?_)))))
  refine bM_ ?_
  exact fz_ ⟨(), hspn⟩ (fun aa v h1 h2 => ck_ (us := [_, _]) 1 Tryz.results183 bT_ Z_ rfl rfl rfl aa v h1 h2) C_ (fun _ _ _ => trivial)
theorem ce_ (feat : Str) (kn : Str → Bool) (q : List Str) (hkn : ∀ s, kn s = true ↔ s ∈ q) (es : Array MapEntry) (ec : Nat) (hE : SetE str es q) (vb ab : Nat) (pv fv : Value) (x : Pc) (f ga gb : Fc) (lad : Option Addr) (lcap : Nat) : TriX Tryz.prog 183 #[.agg #[zp_ vb 0, .int .i64 (Fc.kind f), str (Fc.a f), str (Fc.b f), str (Fc.r f), .int .i64 (Fc.lo f), .int .i64 (Fc.hi f), .slice lad (List.length [ga, gb]) lcap, .int .i64 (Pc.kind x), str (Pc.a x), str (Pc.b x), str (Pc.c x), str (Pc.r x), str (Pc.s x), str (Pc.t x), .int .i64 (Pc.lo x), .int .i64 (Pc.hi x), .int .i64 (Pc.frm x)], .int .i64 1, str feat] [] [bU_ vb (.cells (cE_ pv ab fv).toArray 83 (0, 0)), bU_ ab (.map es ec), aQ_ lad (List.flatMap Fc.cells [ga, gb])] (fun _ : {u : Unit // gb = ai_ (Fc.a f) feat (Fc.lo gb) (Fc.hi gb)} => .agg #[.int .i64 (Fc.lo gb), .int .i64 (Fc.hi gb)]) (fun _ => []) (fun _ => []) (¬ gb = ai_ (Fc.a f) feat (Fc.lo gb) (Fc.hi gb)) := by
  refine bf_ Tryz.func183 rfl rfl Tryz.ntmps183 rfl fun v0 => ?_
  refine g_ (c_ (aN_ rfl rfl fun b1 => ?_))
  refine ae_ ar_ rfl fun b2 => ?_
  refine d_ (b_ rfl (g_ (c_ (a_ (h_ i_ rfl rfl rfl aF_) rfl (a_ (m_ 1 bc_ rfl rfl rfl) rfl (a_ (f_ rfl) rfl (a_ (ah_ ag_ k_ rfl rfl (fun v _ h => aM_ (n := 6) Fc.cells_len (by decide) (by exact h.2.2.1) (show [ga, gb][1]? = some _ from rfl)) (by omega) (by first | omega | (simp; done))) rfl (a_ (aK_ (ad := lad) (us := Fc.cells gb) R_ k_ rfl (fun v _ h => by exact h.2.2.1) (Fc.cells_len _) (ak_ Fc.cells_len (show [ga, gb][1]? = some _ from rfl))) rfl (ae_ ba_ rfl fun b3 => ?_)))))))))
  refine X_ 0 k_ rfl rfl rfl rfl rfl rfl (d_ (b_ rfl (g_ ?_)))
  refine aJ_ (by kernel_rfl) ?_
  refine M_ 3 [0, 1, 2, 3, 4, 5, 6, 7, 8] (by kernel_rfl) (fun _ a b => ⟨a, b⟩) (j_ rfl (P_ 0 R_ k_ rfl rfl rfl) rfl (j_ rfl (h_ i_ rfl rfl rfl k_) rfl (j_ rfl (h_ o_ rfl rfl rfl w_) rfl (j_ rfl (m_ 2 F_ rfl rfl rfl) rfl (j_ rfl (f_ rfl) rfl (j_ rfl (h_ o_ rfl rfl rfl r_) rfl (j_ rfl (m_ 0 y_ rfl rfl rfl) rfl (j_ rfl (h_ o_ rfl rfl rfl r_) rfl (j_ rfl (m_ 0 y_ rfl rfl rfl) rfl ?_)))))))))
  refine L_ (I_ 9 rfl (by kernel_rfl) (Q_ (dI_ (Fc.a f) feat (Fc.lo gb) (Fc.hi gb)) rfl C_ (fun _ _ _ => by exact trivial) rfl fun _ => ?_))
  refine d_ (q_ rfl (A_ (fun _ a b => ⟨a, b⟩) (M_ 1 [10] (by kernel_rfl) (fun _ a b => ⟨a, b⟩) ?_)))
  refine bo_ rfl (aq_ (p := gb) (q := (ai_ (Fc.a f) feat (Fc.lo gb) (Fc.hi gb))) rfl rfl) rfl fun r1 hr1 => ?_
  refine L_ (I_ 11 rfl (by kernel_rfl) (an_ (cM_ r1) rfl C_ (fun _ _ _ => by exact trivial) rfl (fun hb => cg_ ((by rw [hb] at hr1; exact of_decide_eq_false hr1))) fun ⟨_, hn1⟩ => ?_))
  try dsimp only
  have hspn : gb = ai_ (Fc.a f) feat (Fc.lo gb) (Fc.hi gb) := of_decide_eq_true (hr1.trans hn1)
  refine d_ (q_ rfl (A_ (fun _ a b => ⟨a, b⟩) (S_ (by kernel_rfl) (b_ rfl (g_ (c_ (a_ (h_ o_ rfl rfl rfl r_) rfl (a_ (m_ 0 y_ rfl rfl rfl) rfl (a_ (h_ o_ rfl rfl rfl r_) rfl ?_)))))))))
  refine a_ (m_ 0 y_ rfl rfl rfl) rfl (a_ (az_ eF_ rfl rfl) rfl (X_ 1 Z_ rfl rfl rfl rfl rfl rfl (d_ (b_ rfl (u_ ?_)))))
  refine bM_ ?_
  exact fz_ ⟨(), hspn⟩ (fun aa v h1 h2 => ck_ (us := [_, _]) 1 Tryz.results183 bT_ Z_ rfl rfl rfl aa v h1 h2) C_ (fun _ _ _ => trivial)
end Go.Proofs.YtaffcjgphlhppaaGreatDoor
