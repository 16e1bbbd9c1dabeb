/-
  Part of the proof of the law SaturateOrder over this seat: the small logic, the data, the contracts of functions (no condition).
-/
import Derived.Test.YtpdbbglpbngeiaaGreatDoorQSaturateOrder6
set_option linter.unusedVariables false
set_option linter.unusedSimpArgs false
set_option linter.unusedSectionVars false
namespace Go.Proofs.YtpdbbglpbngeiaaGreatDoor
open Go Go.Sx Go.Proofs
set_option linter.unusedVariables false
attribute [local irreducible] Code.wp wpList wpAnyH
open Go.Vs
/-- is it the fact that one atom is in another? -/
def isSubB (f : Fc) : Bool := decide (f = fsub f.a f.b)
/-- is it a fact about some atoms? -/
def factOk (A : List Str) (f : Fc) : Bool :=
  decide (f.a ∈ A) && (if f.kind = 1 then decide (f.b ∈ A) && isSubB f
    else if f.kind = 2 then decide (f.b ∈ A) && (decide (f.r ≠ []) && decide (f = flink f.a f.r f.b))
    else if f.kind = 3 then decide (f.r ≠ []) && (decide (f = fspan f.a f.r f.lo f.hi) && (decide (-1099511627776 ≤ f.lo) && (decide (f.lo ≤ f.hi) && decide (f.hi ≤ 1099511627776))))
    else false)
abbrev SrtS (l : List Str) : Prop := l.Pairwise fun x y => x < y
structure ChkC (at' : List Str) (fs : List Fc) : Prop where
  sa : SrtS at'
  sf : Srt fs
  top : [42] ∈ at'
  bot : [33] ∈ at'
  ok : ∀ f ∈ fs, factOk at' f = true
def ChkB (at' : List Str) (fs : List Fc) : Prop := SrtS at' ∧ Srt fs ∧ [42] ∈ at' ∧ [33] ∈ at' ∧ ∀ f ∈ fs, factOk at' f = true
instance (at' : List Str) (fs : List Fc) : Decidable (ChkB at' fs) := by unfold ChkB; exact inferInstance
theorem chk_iff {at' : List Str} {fs : List Fc} : ChkB at' fs ↔ ChkC at' fs := ⟨fun ⟨a, b, c, d, e⟩ => ⟨a, b, c, d, e⟩, fun h => ⟨h.sa, h.sf, h.top, h.bot, h.ok⟩⟩
/-- what Check answers -/
def checkC (at' : List Str) (fs : List Fc) : Int := if ChkB at' fs then if 65536 < fs.length then 2 else 0 else 1
theorem pw_step {α : Type} {lt : α → α → Prop} (ht : ∀ {x y z}, lt x y → lt y z → lt x z) {l : List α} {k : Nat} {a b : α} (h : (l.take (k + 1)).Pairwise lt) (ha : l[k]? = some a) (hb : l[k + 1]? = some b) (hab : lt a b) : (l.take (k + 2)).Pairwise lt := by
  rw [List.take_add_one, hb, Option.toList_some, List.pairwise_append]
  refine ⟨h, by simp, fun x hx y hy => ?_⟩
  rw [List.mem_singleton] at hy
  subst hy
  rw [List.take_add_one, ha, Option.toList_some] at h hx
  rcases List.mem_append.1 hx with hx | hx
  · exact ht ((List.pairwise_append.1 h).2.2 x hx a (by simp)) hab
  · rw [List.mem_singleton] at hx; subst hx; exact hab
theorem pw_not {α : Type} {lt : α → α → Prop} {l : List α} {k : Nat} {a b : α} (ha : l[k]? = some a) (hb : l[k + 1]? = some b) (hab : ¬ lt a b) : ¬ l.Pairwise lt := fun h => by
  obtain ⟨h1, h2⟩ := List.getElem?_eq_some_iff.1 ha
  obtain ⟨h3, h4⟩ := List.getElem?_eq_some_iff.1 hb
  have := List.pairwise_iff_getElem.1 h k (k + 1) h1 h3 (by omega)
  rw [h2, h4] at this
  exact hab this
theorem pw_one {α : Type} {lt : α → α → Prop} (l : List α) : (l.take 1).Pairwise lt := by
  cases l <;> simp
theorem cmpF_ge {x y : Fc} : 0 ≤ cmpF x y ↔ ¬ x.lt y := by rw [← cmpF_neg]; omega
theorem cmpF_lt {x y : Fc} (h : ¬ 0 ≤ cmpF x y) : x.lt y := Decidable.byContradiction fun q => h (cmpF_ge.2 q)
theorem cS_ge {x y : Str} : 0 ≤ Lib.compareBytes x y ↔ ¬ x < y := by rw [← cS_neg]; omega
theorem cS_lt {x y : Str} (h : ¬ 0 ≤ Lib.compareBytes x y) : x < y := Decidable.byContradiction fun q => h (cS_ge.2 q)
theorem isSub_c (f : Fc) : Fn0 Tryz.prog 86 #[Fc.val f] (.bool (isSubB f)) := by
  refine tri_of_body Tryz.func86 rfl rfl Tryz.ntmps86 rfl fun v0 => ?_
  refine run_seq (run_region (ops_box rfl rfl fun b1 => ?_))
  refine ops_val (yld_assign rfl) rfl (ops_nil (fin_next rfl (run_seq ?_)))
  refine run_draw' (by kernel_rfl) ?_
  refine any_sq 3 [0, 1, 2, 3, 4] (by kernel_rfl) (fun _ a b => ⟨a, b⟩) ?_
  refine sq_val rfl (yld_loadS 0 Tryz.isAgg41 Tryz.sizeOf41 rfl rfl rfl) rfl ?_
  refine sq_val rfl (yld_field Tryz.runUnderlying41 rfl rfl rfl Tryz.sizeOf9) rfl ?_
  refine sq_val rfl (yld_load 0 Tryz.isAgg9 rfl rfl rfl) rfl ?_
  refine sq_val rfl (yld_field Tryz.runUnderlying41 rfl rfl rfl Tryz.sizeOf9) rfl ?_
  refine sq_val rfl (yld_load 0 Tryz.isAgg9 rfl rfl rfl) rfl ?_
  refine sq_nil ?_
  refine any_one 5 rfl (by kernel_rfl) ?_
  refine ops_call (sub_c (Fc.a f) (Fc.b f)) rfl pf_nil (fun _ _ _ => by exact trivial) rfl fun _ => ?_
  refine ops_nil (fin_inv rfl (any_next (fun _ a b => ⟨a, b⟩) ?_))
  refine any_sq 0 [6, 7] (by kernel_rfl) (fun _ a b => ⟨a, b⟩) ?_
  refine sq_valB rfl (yld_eqlFc (p := f) (q := (fsub (Fc.a f) (Fc.b f))) rfl rfl) rfl fun r1 hr1 => ?_
  refine sq_val rfl (yld_assign rfl) rfl ?_
  refine sq_nil ?_
  refine any_done (by kernel_rfl) ?_
  refine fin_next rfl (run_ret ?_)
  exact ret1 Tryz.results86 () (get_bool rfl (by unfold isSubB; exact hr1.symm)) pf_nil (fun _ _ _ => trivial)
theorem isFact_c (f : Fc) (A : List Str) (mb : Nat) (es : Array MapEntry) (c : Nat) (hE : SetE str es A) : Tri Tryz.prog 73 #[Fc.val f, .map (some mb)] [(mb, .map es c)] [] (fun _ : Unit => .bool (factOk A f)) (fun _ => [(mb, .map es c)]) (fun _ => []) := by
 refine tri_of_body Tryz.func73 rfl rfl Tryz.ntmps73 rfl fun v0 => ?_
 refine run_seq (run_region (ops_box rfl rfl fun b1 => ?_))
 refine ops_val (yld_assign rfl) rfl (ops_nil (fin_next rfl (run_seq (run_seq (run_region (ops_val (yld_move rfl) rfl (ops_val (yld_field Tryz.runUnderlying41 rfl rfl rfl Tryz.sizeOf9) rfl ?_)))))))
 refine ops_val (yld_load 0 Tryz.isAgg9 rfl rfl rfl) rfl ?_
 refine ops_valB (yld_lookSet (k := (Fc.a f)) keyS Tryz.runUnderlying112 Tryz.zeroValue4 rfl rfl hE (fun v h _ => (h.own _ (List.mem_of_getElem? (i := 1) rfl)).1)) rfl fun r1 hr1 => ?_
 refine ops_val (yld_not rfl) rfl ?_
 refine ops_nil (fin_next rfl ?_)
 cases r1
 ·
  replace hr1 := dF hr1
  refine run_cond_t rfl (run_seq (run_region (ops_val (yld_assign rfl) rfl (ops_nil (fin_next rfl (run_ret ?_))))))
  exact ret1 Tryz.results73 () (get_bool rfl (by have p1 := eq_false hr1; simp only [factOk, isSubB, p1, if_true, if_false, decide_true, decide_false, Bool.and_true, Bool.and_false, Bool.true_and, Bool.false_and, Bool.or_true, Bool.or_false, Bool.true_or, Bool.false_or, Bool.not_true, Bool.not_false, ne_eq, not_true_eq_false, not_false_eq_true, true_and, and_true, false_and, and_false, true_or, or_true, false_or, or_false, ite_true, ite_false, Bool.false_eq_true])) (pf_cons pf_here) (fun _ _ _ => trivial)
 ·
  replace hr1 := dT hr1
  refine run_cond_f rfl (run_skip (fin_next rfl (run_seq (run_seq (run_region (ops_val (yld_field Tryz.runUnderlying41 rfl rfl rfl Tryz.sizeOf3) rfl ?_))))))
  refine ops_val (yld_load 0 Tryz.isAgg3 rfl rfl rfl) rfl ?_
  refine ops_nil (fin_next rfl (run_block (run_seq (run_region (ops_valB (yld_eql rfl rfl) rfl fun r2 hr2 => ?_)))))
  refine ops_val (yld_assign rfl) rfl (ops_nil (fin_next rfl ?_))
  cases r2
  ·
   replace hr2 := ne_of_beq_false hr2
   refine run_cond_f rfl (run_seq (run_region (ops_valB (yld_eql rfl rfl) rfl fun r3 hr3 => ?_)))
   refine ops_val (yld_assign rfl) rfl (ops_nil (fin_next rfl ?_))
   cases r3
   ·
    replace hr3 := ne_of_beq_false hr3
    refine run_cond_f rfl (run_seq (run_region (ops_valB (yld_eql rfl rfl) rfl fun r4 hr4 => ?_)))
    refine ops_val (yld_assign rfl) rfl (ops_nil (fin_next rfl ?_))
    cases r4
    ·
     replace hr4 := ne_of_beq_false hr4
     refine run_cond_f rfl (run_skip (fin_next rfl (run_seq (run_region (ops_val (yld_assign rfl) rfl (ops_nil (fin_next rfl ?_)))))))
     refine run_ret ?_
     exact ret1 Tryz.results73 () (get_bool rfl (by have p1 := eq_true hr1; have p2 := eq_false hr2; have p3 := eq_false hr3; have p4 := eq_false hr4; simp only [factOk, isSubB, p1, p2, p3, p4, if_true, if_false, decide_true, decide_false, Bool.and_true, Bool.and_false, Bool.true_and, Bool.false_and, Bool.or_true, Bool.or_false, Bool.true_or, Bool.false_or, Bool.not_true, Bool.not_false, ne_eq, not_true_eq_false, not_false_eq_true, true_and, and_true, false_and, and_false, true_or, or_true, false_or, or_false, ite_true, ite_false, Bool.false_eq_true])) (pf_cons pf_here) (fun _ _ _ => trivial)
    ·
     replace hr4 := eq_of_beq hr4
     refine run_cond_t rfl (run_seq ?_)
     refine run_draw' (by kernel_rfl) ?_
     refine any_sq 30 [0, 1, 2, 3] (by kernel_rfl) (fun _ a b => ⟨a, b⟩) ?_
     refine sq_val rfl (yld_field Tryz.runUnderlying41 rfl rfl rfl Tryz.sizeOf9) rfl ?_
     refine sq_val rfl (yld_load 0 Tryz.isAgg9 rfl rfl rfl) rfl ?_
     refine sq_valB rfl (yld_sneq rfl rfl) rfl fun r5 hr5 => ?_
     refine sq_val rfl (yld_move rfl) rfl ?_
     refine sq_nil ?_
     cases r5
     ·
      replace hr5 := eq_of_bne hr5
      refine any_sq 0 [4, 5, 6, 7, 8, 9, 10, 11, 12, 13, 14, 15, 16, 17, 18, 19, 20, 21, 22, 23, 24, 25, 26, 27, 28, 29, 30, 31, 32, 33] (by kernel_rfl) (fun _ a b => ⟨a, b⟩) ?_
      refine sq_no rfl rfl rfl rfl rfl ?_
      refine sq_no rfl rfl rfl rfl rfl ?_
      refine sq_no rfl rfl rfl rfl rfl ?_
      refine sq_no rfl rfl rfl rfl rfl ?_
      refine sq_no rfl rfl rfl rfl rfl ?_
      refine sq_no rfl rfl rfl rfl rfl ?_
      refine sq_no rfl rfl rfl rfl rfl ?_
      refine sq_no rfl rfl rfl rfl rfl ?_
      refine sq_no rfl rfl rfl rfl rfl ?_
      refine sq_no rfl rfl rfl rfl rfl ?_
      refine sq_no rfl rfl rfl rfl rfl ?_
      refine sq_val rfl (yld_pick_f rfl rfl) rfl ?_
      refine sq_val rfl (yld_move rfl) rfl ?_
      refine sq_no rfl rfl rfl rfl rfl ?_
      refine sq_no rfl rfl rfl rfl rfl ?_
      refine sq_no rfl rfl rfl rfl rfl ?_
      refine sq_val rfl (yld_pick_f rfl rfl) rfl ?_
      refine sq_val rfl (yld_move rfl) rfl ?_
      refine sq_no rfl rfl rfl rfl rfl ?_
      refine sq_no rfl rfl rfl rfl rfl ?_
      refine sq_no rfl rfl rfl rfl rfl ?_
      refine sq_no rfl rfl rfl rfl rfl ?_
      refine sq_no rfl rfl rfl rfl rfl ?_
      refine sq_val rfl (yld_pick_f rfl rfl) rfl ?_
      refine sq_val rfl (yld_move rfl) rfl ?_
      refine sq_no rfl rfl rfl rfl rfl ?_
      refine sq_no rfl rfl rfl rfl rfl ?_
      refine sq_no rfl rfl rfl rfl rfl ?_
      refine sq_val rfl (yld_pick_f rfl rfl) rfl ?_
      refine sq_val rfl (yld_assign rfl) rfl ?_
      refine sq_nil ?_
      refine any_done (by kernel_rfl) ?_
      refine fin_next rfl (run_ret ?_)
      exact ret1 Tryz.results73 () (get_bool rfl (by have p1 := eq_true hr1; have p2 := eq_false hr2; have p3 := eq_false hr3; have p4 := eq_true hr4; have p5 := eq_true hr5; simp only [factOk, isSubB, p1, p2, p3, p4, p5, if_true, if_false, decide_true, decide_false, Bool.and_true, Bool.and_false, Bool.true_and, Bool.false_and, Bool.or_true, Bool.or_false, Bool.true_or, Bool.false_or, Bool.not_true, Bool.not_false, ne_eq, not_true_eq_false, not_false_eq_true, true_and, and_true, false_and, and_false, true_or, or_true, false_or, or_false, ite_true, ite_false, Bool.false_eq_true])) (pf_cons pf_here) (fun _ _ _ => trivial)
     ·
      replace hr5 := ne_of_bne hr5
      refine any_sq 21 [4, 5, 6, 7, 8, 9, 10, 11, 12] (by kernel_rfl) (fun _ a b => ⟨a, b⟩) ?_
      refine sq_valY rfl rfl rfl (yld_loadS 0 Tryz.isAgg41 Tryz.sizeOf41 rfl rfl rfl) rfl ?_
      refine sq_valY rfl rfl rfl (yld_field Tryz.runUnderlying41 rfl rfl rfl Tryz.sizeOf9) rfl ?_
      refine sq_valY rfl rfl rfl (yld_load 0 Tryz.isAgg9 rfl rfl rfl) rfl ?_
      refine sq_valY rfl rfl rfl (yld_field Tryz.runUnderlying41 rfl rfl rfl Tryz.sizeOf9) rfl ?_
      refine sq_valY rfl rfl rfl (yld_load 0 Tryz.isAgg9 rfl rfl rfl) rfl ?_
      refine sq_valY rfl rfl rfl (yld_field Tryz.runUnderlying41 rfl rfl rfl Tryz.sizeOf3) rfl ?_
      refine sq_valY rfl rfl rfl (yld_load 0 Tryz.isAgg3 rfl rfl rfl) rfl ?_
      refine sq_valY rfl rfl rfl (yld_field Tryz.runUnderlying41 rfl rfl rfl Tryz.sizeOf3) rfl ?_
      refine sq_valY rfl rfl rfl (yld_load 0 Tryz.isAgg3 rfl rfl rfl) rfl ?_
      refine sq_nil ?_
      refine any_one 13 rfl (by kernel_rfl) ?_
      refine ops_yes rfl rfl (ops_call (span_c (Fc.a f) (Fc.r f) (Fc.lo f) (Fc.hi f)) rfl pf_nil (fun _ _ _ => by exact trivial) rfl fun _ => ?_)
      refine ops_nil (fin_inv rfl (any_next (fun _ a b => ⟨a, b⟩) ?_))
      refine any_sq 17 [14, 15, 16] (by kernel_rfl) (fun _ a b => ⟨a, b⟩) ?_
      refine sq_valYB rfl rfl rfl (yld_eqlFc (p := f) (q := (fspan (Fc.a f) (Fc.r f) (Fc.lo f) (Fc.hi f))) rfl rfl) rfl fun r6 hr6 => ?_
      refine sq_val rfl (yld_pick_t rfl rfl) rfl ?_
      refine sq_val rfl (yld_move rfl) rfl ?_
      refine sq_nil ?_
      cases r6
      ·
       replace hr6 := of_decide_eq_false hr6
       refine any_sq 0 [17, 18, 19, 20, 21, 22, 23, 24, 25, 26, 27, 28, 29, 30, 31, 32, 33] (by kernel_rfl) (fun _ a b => ⟨a, b⟩) ?_
       refine sq_no rfl rfl rfl rfl rfl ?_
       refine sq_no rfl rfl rfl rfl rfl ?_
       refine sq_no rfl rfl rfl rfl rfl ?_
       refine sq_val rfl (yld_pick_f rfl rfl) rfl ?_
       refine sq_val rfl (yld_move rfl) rfl ?_
       refine sq_no rfl rfl rfl rfl rfl ?_
       refine sq_no rfl rfl rfl rfl rfl ?_
       refine sq_no rfl rfl rfl rfl rfl ?_
       refine sq_no rfl rfl rfl rfl rfl ?_
       refine sq_no rfl rfl rfl rfl rfl ?_
       refine sq_val rfl (yld_pick_f rfl rfl) rfl ?_
       refine sq_val rfl (yld_move rfl) rfl ?_
       refine sq_no rfl rfl rfl rfl rfl ?_
       refine sq_no rfl rfl rfl rfl rfl ?_
       refine sq_no rfl rfl rfl rfl rfl ?_
       refine sq_val rfl (yld_pick_f rfl rfl) rfl ?_
       refine sq_val rfl (yld_assign rfl) rfl ?_
       refine sq_nil ?_
       refine any_done (by kernel_rfl) ?_
       refine fin_next rfl (run_ret ?_)
       exact ret1 Tryz.results73 () (get_bool rfl (by have p1 := eq_true hr1; have p2 := eq_false hr2; have p3 := eq_false hr3; have p4 := eq_true hr4; have p5 := eq_false hr5; have p6 := eq_false hr6; simp only [factOk, isSubB, p1, p2, p3, p4, p5, p6, if_true, if_false, decide_true, decide_false, Bool.and_true, Bool.and_false, Bool.true_and, Bool.false_and, Bool.or_true, Bool.or_false, Bool.true_or, Bool.false_or, Bool.not_true, Bool.not_false, ne_eq, not_true_eq_false, not_false_eq_true, true_and, and_true, false_and, and_false, true_or, or_true, false_or, or_false, ite_true, ite_false, Bool.false_eq_true])) (pf_cons pf_here) (fun _ _ _ => trivial)
      ·
       replace hr6 := of_decide_eq_true hr6
       refine any_sq 12 [17, 18, 19, 20, 21] (by kernel_rfl) (fun _ a b => ⟨a, b⟩) ?_
       refine sq_valY rfl rfl rfl (yld_field Tryz.runUnderlying41 rfl rfl rfl Tryz.sizeOf3) rfl ?_
       refine sq_valY rfl rfl rfl (yld_load 0 Tryz.isAgg3 rfl rfl rfl) rfl ?_
       refine sq_valYB rfl rfl rfl (yld_leq rfl rfl) rfl fun r7 hr7 => ?_
       refine sq_val rfl (yld_pick_t rfl rfl) rfl ?_
       refine sq_val rfl (yld_move rfl) rfl ?_
       refine sq_nil ?_
       cases r7
       ·
        replace hr7 := of_decide_eq_false hr7
        refine any_sq 0 [22, 23, 24, 25, 26, 27, 28, 29, 30, 31, 32, 33] (by kernel_rfl) (fun _ a b => ⟨a, b⟩) ?_
        refine sq_no rfl rfl rfl rfl rfl ?_
        refine sq_no rfl rfl rfl rfl rfl ?_
        refine sq_no rfl rfl rfl rfl rfl ?_
        refine sq_no rfl rfl rfl rfl rfl ?_
        refine sq_no rfl rfl rfl rfl rfl ?_
        refine sq_val rfl (yld_pick_f rfl rfl) rfl ?_
        refine sq_val rfl (yld_move rfl) rfl ?_
        refine sq_no rfl rfl rfl rfl rfl ?_
        refine sq_no rfl rfl rfl rfl rfl ?_
        refine sq_no rfl rfl rfl rfl rfl ?_
        refine sq_val rfl (yld_pick_f rfl rfl) rfl ?_
        refine sq_val rfl (yld_assign rfl) rfl ?_
        refine sq_nil ?_
        refine any_done (by kernel_rfl) ?_
        refine fin_next rfl (run_ret ?_)
        exact ret1 Tryz.results73 () (get_bool rfl (by have p1 := eq_true hr1; have p2 := eq_false hr2; have p3 := eq_false hr3; have p4 := eq_true hr4; have p5 := eq_false hr5; have p6 := eq_true hr6; have p7 := eq_false hr7; simp only [factOk, isSubB, p1, p2, p3, p4, p5, p6, p7, if_true, if_false, decide_true, decide_false, Bool.and_true, Bool.and_false, Bool.true_and, Bool.false_and, Bool.or_true, Bool.or_false, Bool.true_or, Bool.false_or, Bool.not_true, Bool.not_false, ne_eq, not_true_eq_false, not_false_eq_true, true_and, and_true, false_and, and_false, true_or, or_true, false_or, or_false, ite_true, ite_false, Bool.false_eq_true])) (pf_cons pf_here) (fun _ _ _ => trivial)
       ·
        replace hr7 := of_decide_eq_true hr7
        refine any_sq 5 [22, 23, 24, 25, 26, 27, 28] (by kernel_rfl) (fun _ a b => ⟨a, b⟩) ?_
        refine sq_valY rfl rfl rfl (yld_field Tryz.runUnderlying41 rfl rfl rfl Tryz.sizeOf3) rfl ?_
        refine sq_valY rfl rfl rfl (yld_load 0 Tryz.isAgg3 rfl rfl rfl) rfl ?_
        refine sq_valY rfl rfl rfl (yld_field Tryz.runUnderlying41 rfl rfl rfl Tryz.sizeOf3) rfl ?_
        refine sq_valY rfl rfl rfl (yld_load 0 Tryz.isAgg3 rfl rfl rfl) rfl ?_
        refine sq_valYB rfl rfl rfl (yld_leq rfl rfl) rfl fun r8 hr8 => ?_
        refine sq_val rfl (yld_pick_t rfl rfl) rfl ?_
        refine sq_val rfl (yld_move rfl) rfl ?_
        refine sq_nil ?_
        cases r8
        ·
         replace hr8 := of_decide_eq_false hr8
         refine any_sq 0 [29, 30, 31, 32, 33] (by kernel_rfl) (fun _ a b => ⟨a, b⟩) ?_
         refine sq_no rfl rfl rfl rfl rfl ?_
         refine sq_no rfl rfl rfl rfl rfl ?_
         refine sq_no rfl rfl rfl rfl rfl ?_
         refine sq_val rfl (yld_pick_f rfl rfl) rfl ?_
         refine sq_val rfl (yld_assign rfl) rfl ?_
         refine sq_nil ?_
         refine any_done (by kernel_rfl) ?_
         refine fin_next rfl (run_ret ?_)
         exact ret1 Tryz.results73 () (get_bool rfl (by have p1 := eq_true hr1; have p2 := eq_false hr2; have p3 := eq_false hr3; have p4 := eq_true hr4; have p5 := eq_false hr5; have p6 := eq_true hr6; have p7 := eq_true hr7; have p8 := eq_false hr8; simp only [factOk, isSubB, p1, p2, p3, p4, p5, p6, p7, p8, if_true, if_false, decide_true, decide_false, Bool.and_true, Bool.and_false, Bool.true_and, Bool.false_and, Bool.or_true, Bool.or_false, Bool.true_or, Bool.false_or, Bool.not_true, Bool.not_false, ne_eq, not_true_eq_false, not_false_eq_true, true_and, and_true, false_and, and_false, true_or, or_true, false_or, or_false, ite_true, ite_false, Bool.false_eq_true])) (pf_cons pf_here) (fun _ _ _ => trivial)
        ·
         replace hr8 := of_decide_eq_true hr8
         refine any_sq 0 [29, 30, 31, 32, 33] (by kernel_rfl) (fun _ a b => ⟨a, b⟩) ?_
         refine sq_valY rfl rfl rfl (yld_field Tryz.runUnderlying41 rfl rfl rfl Tryz.sizeOf3) rfl ?_
         refine sq_valY rfl rfl rfl (yld_load 0 Tryz.isAgg3 rfl rfl rfl) rfl ?_
         refine sq_valYB rfl rfl rfl (yld_leq rfl rfl) rfl fun r9 hr9 => ?_
         refine sq_val rfl (yld_pick_t rfl rfl) rfl ?_
         refine sq_val rfl (yld_assign rfl) rfl ?_
         refine sq_nil ?_
         refine any_done (by kernel_rfl) ?_
         refine fin_next rfl (run_ret ?_)
         exact ret1 Tryz.results73 () (get_bool rfl (by have p1 := eq_true hr1; have p2 := eq_false hr2; have p3 := eq_false hr3; have p4 := eq_true hr4; have p5 := eq_false hr5; have p6 := eq_true hr6; have p7 := eq_true hr7; have p8 := eq_true hr8; rw [← hr9]; simp only [factOk, isSubB, p1, p2, p3, p4, p5, p6, p7, p8, if_true, if_false, decide_true, decide_false, Bool.and_true, Bool.and_false, Bool.true_and, Bool.false_and, Bool.or_true, Bool.or_false, Bool.true_or, Bool.false_or, Bool.not_true, Bool.not_false, ne_eq, not_true_eq_false, not_false_eq_true, true_and, and_true, false_and, and_false, true_or, or_true, false_or, or_false, ite_true, ite_false, Bool.false_eq_true])) (pf_cons pf_here) (fun _ _ _ => trivial)
   ·
    replace hr3 := eq_of_beq hr3
    refine run_cond_t rfl (run_seq ?_)
    refine run_draw' (by kernel_rfl) ?_
    refine any_sq 16 [0, 1, 2, 3, 4] (by kernel_rfl) (fun _ a b => ⟨a, b⟩) ?_
    refine sq_val rfl (yld_move rfl) rfl ?_
    refine sq_val rfl (yld_field Tryz.runUnderlying41 rfl rfl rfl Tryz.sizeOf9) rfl ?_
    refine sq_val rfl (yld_load 0 Tryz.isAgg9 rfl rfl rfl) rfl ?_
    refine sq_valB rfl (yld_lookSet (k := (Fc.b f)) keyS Tryz.runUnderlying112 Tryz.zeroValue4 rfl rfl hE (fun v h _ => (h.own _ (List.mem_of_getElem? (i := 1) rfl)).1)) rfl fun r10 hr10 => ?_
    refine sq_val rfl (yld_move rfl) rfl ?_
    refine sq_nil ?_
    cases r10
    ·
     replace hr10 := dF hr10
     refine any_sq 0 [5, 6, 7, 8, 9, 10, 11, 12, 13, 14, 15, 16, 17, 18, 19, 20] (by kernel_rfl) (fun _ a b => ⟨a, b⟩) ?_
     refine sq_no rfl rfl rfl rfl rfl ?_
     refine sq_no rfl rfl rfl rfl rfl ?_
     refine sq_no rfl rfl rfl rfl rfl ?_
     refine sq_val rfl (yld_pick_f rfl rfl) rfl ?_
     refine sq_val rfl (yld_move rfl) rfl ?_
     refine sq_no rfl rfl rfl rfl rfl ?_
     refine sq_no rfl rfl rfl rfl rfl ?_
     refine sq_no rfl rfl rfl rfl rfl ?_
     refine sq_no rfl rfl rfl rfl rfl ?_
     refine sq_no rfl rfl rfl rfl rfl ?_
     refine sq_no rfl rfl rfl rfl rfl ?_
     refine sq_no rfl rfl rfl rfl rfl ?_
     refine sq_no rfl rfl rfl rfl rfl ?_
     refine sq_no rfl rfl rfl rfl rfl ?_
     refine sq_val rfl (yld_pick_f rfl rfl) rfl ?_
     refine sq_val rfl (yld_assign rfl) rfl ?_
     refine sq_nil ?_
     refine any_done (by kernel_rfl) ?_
     refine fin_next rfl (run_ret ?_)
     exact ret1 Tryz.results73 () (get_bool rfl (by have p1 := eq_true hr1; have p2 := eq_false hr2; have p3 := eq_true hr3; have p4 := eq_false hr10; simp only [factOk, isSubB, p1, p2, p3, p4, if_true, if_false, decide_true, decide_false, Bool.and_true, Bool.and_false, Bool.true_and, Bool.false_and, Bool.or_true, Bool.or_false, Bool.true_or, Bool.false_or, Bool.not_true, Bool.not_false, ne_eq, not_true_eq_false, not_false_eq_true, true_and, and_true, false_and, and_false, true_or, or_true, false_or, or_false, ite_true, ite_false, Bool.false_eq_true])) (pf_cons pf_here) (fun _ _ _ => trivial)
    ·
     replace hr10 := dT hr10
     refine any_sq 11 [5, 6, 7, 8, 9] (by kernel_rfl) (fun _ a b => ⟨a, b⟩) ?_
     refine sq_valY rfl rfl rfl (yld_field Tryz.runUnderlying41 rfl rfl rfl Tryz.sizeOf9) rfl ?_
     refine sq_valY rfl rfl rfl (yld_load 0 Tryz.isAgg9 rfl rfl rfl) rfl ?_
     refine sq_valYB rfl rfl rfl (yld_sneq rfl rfl) rfl fun r11 hr11 => ?_
     refine sq_val rfl (yld_pick_t rfl rfl) rfl ?_
     refine sq_val rfl (yld_move rfl) rfl ?_
     refine sq_nil ?_
     cases r11
     ·
      replace hr11 := eq_of_bne hr11
      refine any_sq 0 [10, 11, 12, 13, 14, 15, 16, 17, 18, 19, 20] (by kernel_rfl) (fun _ a b => ⟨a, b⟩) ?_
      refine sq_no rfl rfl rfl rfl rfl ?_
      refine sq_no rfl rfl rfl rfl rfl ?_
      refine sq_no rfl rfl rfl rfl rfl ?_
      refine sq_no rfl rfl rfl rfl rfl ?_
      refine sq_no rfl rfl rfl rfl rfl ?_
      refine sq_no rfl rfl rfl rfl rfl ?_
      refine sq_no rfl rfl rfl rfl rfl ?_
      refine sq_no rfl rfl rfl rfl rfl ?_
      refine sq_no rfl rfl rfl rfl rfl ?_
      refine sq_val rfl (yld_pick_f rfl rfl) rfl ?_
      refine sq_val rfl (yld_assign rfl) rfl ?_
      refine sq_nil ?_
      refine any_done (by kernel_rfl) ?_
      refine fin_next rfl (run_ret ?_)
      exact ret1 Tryz.results73 () (get_bool rfl (by have p1 := eq_true hr1; have p2 := eq_false hr2; have p3 := eq_true hr3; have p4 := eq_true hr10; have p5 := eq_true hr11; simp only [factOk, isSubB, p1, p2, p3, p4, p5, if_true, if_false, decide_true, decide_false, Bool.and_true, Bool.and_false, Bool.true_and, Bool.false_and, Bool.or_true, Bool.or_false, Bool.true_or, Bool.false_or, Bool.not_true, Bool.not_false, ne_eq, not_true_eq_false, not_false_eq_true, true_and, and_true, false_and, and_false, true_or, or_true, false_or, or_false, ite_true, ite_false, Bool.false_eq_true])) (pf_cons pf_here) (fun _ _ _ => trivial)
     ·
      replace hr11 := ne_of_bne hr11
      refine any_sq 4 [10, 11, 12, 13, 14, 15, 16] (by kernel_rfl) (fun _ a b => ⟨a, b⟩) ?_
      refine sq_valY rfl rfl rfl (yld_loadS 0 Tryz.isAgg41 Tryz.sizeOf41 rfl rfl rfl) rfl ?_
      refine sq_valY rfl rfl rfl (yld_field Tryz.runUnderlying41 rfl rfl rfl Tryz.sizeOf9) rfl ?_
      refine sq_valY rfl rfl rfl (yld_load 0 Tryz.isAgg9 rfl rfl rfl) rfl ?_
      refine sq_valY rfl rfl rfl (yld_field Tryz.runUnderlying41 rfl rfl rfl Tryz.sizeOf9) rfl ?_
      refine sq_valY rfl rfl rfl (yld_load 0 Tryz.isAgg9 rfl rfl rfl) rfl ?_
      refine sq_valY rfl rfl rfl (yld_field Tryz.runUnderlying41 rfl rfl rfl Tryz.sizeOf9) rfl ?_
      refine sq_valY rfl rfl rfl (yld_load 0 Tryz.isAgg9 rfl rfl rfl) rfl ?_
      refine sq_nil ?_
      refine any_one 17 rfl (by kernel_rfl) ?_
      refine ops_yes rfl rfl (ops_call (link_c (Fc.a f) (Fc.r f) (Fc.b f)) rfl pf_nil (fun _ _ _ => by exact trivial) rfl fun _ => ?_)
      refine ops_nil (fin_inv rfl (any_next (fun _ a b => ⟨a, b⟩) ?_))
      refine any_sq 0 [18, 19, 20] (by kernel_rfl) (fun _ a b => ⟨a, b⟩) ?_
      refine sq_valYB rfl rfl rfl (yld_eqlFc (p := f) (q := (flink (Fc.a f) (Fc.r f) (Fc.b f))) rfl rfl) rfl fun r12 hr12 => ?_
      refine sq_val rfl (yld_pick_t rfl rfl) rfl ?_
      refine sq_val rfl (yld_assign rfl) rfl ?_
      refine sq_nil ?_
      refine any_done (by kernel_rfl) ?_
      refine fin_next rfl (run_ret ?_)
      exact ret1 Tryz.results73 () (get_bool rfl (by have p1 := eq_true hr1; have p2 := eq_false hr2; have p3 := eq_true hr3; have p4 := eq_true hr10; have p5 := eq_false hr11; rw [← hr12]; simp only [factOk, isSubB, p1, p2, p3, p4, p5, if_true, if_false, decide_true, decide_false, Bool.and_true, Bool.and_false, Bool.true_and, Bool.false_and, Bool.or_true, Bool.or_false, Bool.true_or, Bool.false_or, Bool.not_true, Bool.not_false, ne_eq, not_true_eq_false, not_false_eq_true, true_and, and_true, false_and, and_false, true_or, or_true, false_or, or_false, ite_true, ite_false, Bool.false_eq_true])) (pf_cons pf_here) (fun _ _ _ => trivial)
  ·
   replace hr2 := eq_of_beq hr2
   refine run_cond_t rfl (run_seq (run_region (ops_val (yld_move rfl) rfl (ops_val (yld_field Tryz.runUnderlying41 rfl rfl rfl Tryz.sizeOf9) rfl ?_))))
   refine ops_val (yld_load 0 Tryz.isAgg9 rfl rfl rfl) rfl ?_
   refine ops_valB (yld_lookSet (k := (Fc.b f)) keyS Tryz.runUnderlying112 Tryz.zeroValue4 rfl rfl hE (fun v h _ => (h.own _ (List.mem_of_getElem? (i := 1) rfl)).1)) rfl fun r13 hr13 => ?_
   refine ops_val (yld_move rfl) rfl ?_
   cases r13
   ·
    replace hr13 := dF hr13
    refine ops_no rfl rfl rfl rfl (ops_no rfl rfl rfl rfl (ops_val (yld_pick_f rfl rfl) rfl ?_))
    refine ops_val (yld_assign rfl) rfl (ops_nil (fin_next rfl (run_ret ?_)))
    exact ret1 Tryz.results73 () (get_bool rfl (by have p1 := eq_true hr1; have p2 := eq_true hr2; have p3 := eq_false hr13; simp only [factOk, isSubB, p1, p2, p3, if_true, if_false, decide_true, decide_false, Bool.and_true, Bool.and_false, Bool.true_and, Bool.false_and, Bool.or_true, Bool.or_false, Bool.true_or, Bool.false_or, Bool.not_true, Bool.not_false, ne_eq, not_true_eq_false, not_false_eq_true, true_and, and_true, false_and, and_false, true_or, or_true, false_or, or_false, ite_true, ite_false, Bool.false_eq_true])) (pf_cons pf_here) (fun _ _ _ => trivial)
   ·
    replace hr13 := dT hr13
    refine ops_yes rfl rfl (ops_val (yld_loadS 0 Tryz.isAgg41 Tryz.sizeOf41 rfl rfl rfl) rfl ?_)
    refine ops_yes rfl rfl (ops_callB (isSub_c f) rfl pf_nil (fun _ _ _ => by exact trivial) rfl fun r14 hr14 => ?_)
    refine ops_val (yld_pick_t rfl rfl) rfl ?_
    refine ops_val (yld_assign rfl) rfl (ops_nil (fin_next rfl (run_ret ?_)))
    exact ret1 Tryz.results73 () (get_bool rfl (by have p1 := eq_true hr1; have p2 := eq_true hr2; have p3 := eq_true hr13; rw [← hr14]; simp only [factOk, p1, p2, p3, if_true, if_false, decide_true, decide_false, Bool.and_true, Bool.and_false, Bool.true_and, Bool.false_and, Bool.or_true, Bool.or_false, Bool.true_or, Bool.false_or, Bool.not_true, Bool.not_false, ne_eq, not_true_eq_false, not_false_eq_true, true_and, and_true, false_and, and_false, true_or, or_true, false_or, or_false, ite_true, ite_false, Bool.false_eq_true])) (pf_cons pf_here) (fun _ _ _ => trivial)
theorem incS_c (l : List Str) (ad : Option Addr) (cap : Nat) (hl : l.length ≤ 1000000000000) : Tri Tryz.prog 70 #[.slice ad (List.length l) cap, .func (.func 71) #[] #[]] [] [rowF ad (List.flatMap strC l)] (fun _ : Unit => .bool (decide (l.Pairwise (fun x y => x < y)))) (fun _ => []) (fun _ => []) := by
 refine tri_of_body Tryz.func70 rfl rfl Tryz.ntmps70 rfl fun v0 => ?_
 refine run_seq (run_region (ops_val (yld_assign rfl) rfl (ops_nil (fin_next rfl (run_seq (run_seq (run_region ?_)))))))
 refine ops_val (yld_assign rfl) rfl (ops_nil (fin_next rfl (run_block (ok_fr [(0, .slice ad (List.length l) cap), (1, .func (.func 71) #[] #[]), (5, .int .i64 (((0 : Nat) + 1 : Nat) : Int))] ⟨rfl, rfl, rfl, trivial⟩ ?_))))
 refine run_loop (ι := {y : Nat // (l.take (y + 1)).Pairwise (fun x y => x < y)}) (fun y => [(0, .slice ad (List.length l) cap), (1, .func (.func 71) #[] #[]), (5, .int .i64 ((y.1 + 1 : Nat) : Int))]) (fun y => ([])) (fun y => [rowF ad (List.flatMap strC l)]) (fun y => l.length - y.1) ⟨(0 : Nat), pw_one l⟩ ?_
 rintro ⟨k, hk⟩
 dsimp only at hk ⊢
 refine ok_fr [(0, .slice ad (List.length l) cap), (1, .func (.func 71) #[] #[]), (5, .int .i64 ((k + 1 : Nat) : Int))] ⟨rfl, rfl, rfl, trivial⟩ ?_
 refine run_seq (run_seq (run_region (ops_val (yld_move rfl) rfl (ops_val (yld_move rfl) rfl (ops_val (yld_lenS Tryz.runUnderlying25 rfl) rfl ?_)))))
 refine ops_valB (yld_lss rfl rfl) rfl fun r1 hr1 => ?_
 refine ops_nil (fin_next rfl ?_)
 cases r1
 ·
  replace hr1 := of_decide_eq_false hr1
  refine run_cond_f rfl (run_exit rfl (fin_next rfl (run_seq (run_region (ops_val (yld_assign rfl) rfl (ops_nil (fin_next rfl ?_)))))))
  refine run_ret ?_
  exact ret1 Tryz.results70 () (get_bool rfl (by symm; apply decide_eq_true; rwa [List.take_of_length_le (by omega)] at hk)) pf_nil (fun _ _ _ => trivial)
 ·
  replace hr1 := of_decide_eq_true hr1
  have hlx1 : k < List.length l := by omega
  obtain ⟨x1, hx1⟩ : ∃ e0, l[k]? = some e0 := ⟨_, List.getElem?_eq_getElem hlx1⟩
  have hmx1 : x1 ∈ l := List.mem_of_getElem? hx1
  have hlx2 : (k + 1 : Nat) < List.length l := by omega
  obtain ⟨x2, hx2⟩ : ∃ e0, l[(k + 1 : Nat)]? = some e0 := ⟨_, List.getElem?_eq_getElem hlx2⟩
  have hmx2 : x2 ∈ l := List.mem_of_getElem? hx2
  refine run_cond_t rfl (run_skip (fin_next rfl (run_seq (run_block (run_seq ?_)))))
  refine run_draw' (by kernel_rfl) ?_
  refine any_sq 2 [0, 1, 2, 3, 4, 5, 6, 7, 8, 9] (by kernel_rfl) (fun _ a b => ⟨satNil a, b⟩) ?_
  refine sq_val rfl (yld_move rfl) rfl ?_
  refine sq_val rfl (yld_move rfl) rfl ?_
  refine sq_val rfl (yld_move rfl) rfl ?_
  refine sq_val rfl (yld_eq (yld_arith rfl rfl rfl (wrap64 (by omega) (by omega))) (show Value.int .i64 (((k + 1 : Nat) : Int) - 1) = Value.int .i64 (k : Int) from congrArg _ (by omega))) rfl ?_
  refine sq_val rfl (yld_indexR Tryz.runUnderlying25 Tryz.sizeOf9 rfl rfl (fun v _ h => row_adr (n := 1) strC_len (by decide) (by exact h.1) hx1) (by omega) (by first | omega | (simp; done))) rfl ?_
  refine sq_val rfl (yld_loadR (ad := ad) Tryz.isAgg9 rfl (fun v _ h => by exact h.1) (row_cells strC_len hx1 0 _ rfl)) rfl ?_
  refine sq_val rfl (yld_move rfl) rfl ?_
  refine sq_val rfl (yld_move rfl) rfl ?_
  refine sq_val rfl (yld_indexR Tryz.runUnderlying25 Tryz.sizeOf9 rfl rfl (fun v _ h => row_adr (n := 1) strC_len (by decide) (by exact h.1) hx2) (by omega) (by first | omega | (simp; done))) rfl ?_
  refine sq_val rfl (yld_loadR (ad := ad) Tryz.isAgg9 rfl (fun v _ h => by exact h.1) (row_cells strC_len hx2 0 _ rfl)) rfl ?_
  refine sq_nil ?_
  refine any_one 10 rfl (by kernel_rfl) ?_
  refine ops_calld (cmpStr_c x1 x2) rfl rfl pf_nil (fun _ _ _ => by exact trivial) rfl fun _ => ?_
  refine ops_nil (fin_inv rfl (any_next (fun _ a b => ⟨satNil a, b⟩) ?_))
  refine any_sq 0 [11] (by kernel_rfl) (fun _ a b => ⟨satNil a, b⟩) ?_
  refine sq_valB rfl (yld_geq rfl rfl) rfl fun r2 hr2 => ?_
  refine sq_nil ?_
  refine any_done (by kernel_rfl) ?_
  refine fin_next rfl ?_
  cases r2
  ·
   replace hr2 := of_decide_eq_false hr2
   refine run_cond_f rfl (run_skip (fin_next rfl (run_region (ops_val (yld_move rfl) rfl (ops_val (yld_arith rfl rfl rfl (wrap64 (by omega) (by omega))) rfl ?_)))))
   refine ops_val (yld_assign rfl) rfl (ops_nil (fin_inv rfl ?_))
   exact ok_again ⟨k + 1, pw_step (lt := (fun x y => x < y)) List.lt_trans hk hx1 hx2 (cS_lt (x := x1) (y := x2) (by omega))⟩ (by dsimp only; omega) ⟨rfl, rfl, rfl, trivial⟩ pf_nil (fun v _ h => by exact ⟨h.1, trivial⟩)
  ·
   replace hr2 := of_decide_eq_true hr2
   refine run_cond_t rfl (run_seq (run_region (ops_val (yld_assign rfl) rfl (ops_nil (fin_next rfl (run_ret ?_))))))
   exact ret1 Tryz.results70 () (get_bool rfl (by symm; apply decide_eq_false; exact pw_not hx1 hx2 (cS_ge.1 (by omega)))) pf_nil (fun _ _ _ => trivial)
theorem incF_c (l : List Fc) (ad : Option Addr) (cap : Nat) (hl : l.length ≤ 1000000000000) : Tri Tryz.prog 72 #[.slice ad (List.length l) cap, .func (.func 61) #[] #[]] [] [rowF ad (List.flatMap Fc.cells l)] (fun _ : Unit => .bool (decide (l.Pairwise Fc.lt))) (fun _ => []) (fun _ => []) := by
 refine tri_of_body Tryz.func72 rfl rfl Tryz.ntmps72 rfl fun v0 => ?_
 refine run_seq (run_region (ops_val (yld_assign rfl) rfl (ops_nil (fin_next rfl (run_seq (run_seq (run_region ?_)))))))
 refine ops_val (yld_assign rfl) rfl (ops_nil (fin_next rfl (run_block (ok_fr [(0, .slice ad (List.length l) cap), (1, .func (.func 61) #[] #[]), (5, .int .i64 (((0 : Nat) + 1 : Nat) : Int))] ⟨rfl, rfl, rfl, trivial⟩ ?_))))
 refine run_loop (ι := {y : Nat // (l.take (y + 1)).Pairwise Fc.lt}) (fun y => [(0, .slice ad (List.length l) cap), (1, .func (.func 61) #[] #[]), (5, .int .i64 ((y.1 + 1 : Nat) : Int))]) (fun y => ([])) (fun y => [rowF ad (List.flatMap Fc.cells l)]) (fun y => l.length - y.1) ⟨(0 : Nat), pw_one l⟩ ?_
 rintro ⟨k, hk⟩
 dsimp only at hk ⊢
 refine ok_fr [(0, .slice ad (List.length l) cap), (1, .func (.func 61) #[] #[]), (5, .int .i64 ((k + 1 : Nat) : Int))] ⟨rfl, rfl, rfl, trivial⟩ ?_
 refine run_seq (run_seq (run_region (ops_val (yld_move rfl) rfl (ops_val (yld_move rfl) rfl (ops_val (yld_lenS Tryz.runUnderlying26 rfl) rfl ?_)))))
 refine ops_valB (yld_lss rfl rfl) rfl fun r1 hr1 => ?_
 refine ops_nil (fin_next rfl ?_)
 cases r1
 ·
  replace hr1 := of_decide_eq_false hr1
  refine run_cond_f rfl (run_exit rfl (fin_next rfl (run_seq (run_region (ops_val (yld_assign rfl) rfl (ops_nil (fin_next rfl ?_)))))))
  refine run_ret ?_
  exact ret1 Tryz.results72 () (get_bool rfl (by symm; apply decide_eq_true; rwa [List.take_of_length_le (by omega)] at hk)) pf_nil (fun _ _ _ => trivial)
 ·
  replace hr1 := of_decide_eq_true hr1
  have hlx1 : k < List.length l := by omega
  obtain ⟨x1, hx1⟩ : ∃ e0, l[k]? = some e0 := ⟨_, List.getElem?_eq_getElem hlx1⟩
  have hmx1 : x1 ∈ l := List.mem_of_getElem? hx1
  have hlx2 : (k + 1 : Nat) < List.length l := by omega
  obtain ⟨x2, hx2⟩ : ∃ e0, l[(k + 1 : Nat)]? = some e0 := ⟨_, List.getElem?_eq_getElem hlx2⟩
  have hmx2 : x2 ∈ l := List.mem_of_getElem? hx2
  refine run_cond_t rfl (run_skip (fin_next rfl (run_seq (run_block (run_seq ?_)))))
  refine run_draw' (by kernel_rfl) ?_
  refine any_sq 2 [0, 1, 2, 3, 4, 5, 6, 7, 8, 9] (by kernel_rfl) (fun _ a b => ⟨satNil a, b⟩) ?_
  refine sq_val rfl (yld_move rfl) rfl ?_
  refine sq_val rfl (yld_move rfl) rfl ?_
  refine sq_val rfl (yld_move rfl) rfl ?_
  refine sq_val rfl (yld_eq (yld_arith rfl rfl rfl (wrap64 (by omega) (by omega))) (show Value.int .i64 (((k + 1 : Nat) : Int) - 1) = Value.int .i64 (k : Int) from congrArg _ (by omega))) rfl ?_
  refine sq_val rfl (yld_indexR Tryz.runUnderlying26 Tryz.sizeOf41 rfl rfl (fun v _ h => row_adr (n := 6) Fc.cells_len (by decide) (by exact h.1) hx1) (by omega) (by first | omega | (simp; done))) rfl ?_
  refine sq_val rfl (yld_loadRS (ad := ad) (us := Fc.cells x1) Tryz.isAgg41 Tryz.sizeOf41 rfl (fun v _ h => by exact h.1) (Fc.cells_len _) (row_cells Fc.cells_len hx1)) rfl ?_
  refine sq_val rfl (yld_move rfl) rfl ?_
  refine sq_val rfl (yld_move rfl) rfl ?_
  refine sq_val rfl (yld_indexR Tryz.runUnderlying26 Tryz.sizeOf41 rfl rfl (fun v _ h => row_adr (n := 6) Fc.cells_len (by decide) (by exact h.1) hx2) (by omega) (by first | omega | (simp; done))) rfl ?_
  refine sq_val rfl (yld_loadRS (ad := ad) (us := Fc.cells x2) Tryz.isAgg41 Tryz.sizeOf41 rfl (fun v _ h => by exact h.1) (Fc.cells_len _) (row_cells Fc.cells_len hx2)) rfl ?_
  refine sq_nil ?_
  refine any_one 10 rfl (by kernel_rfl) ?_
  refine ops_calld (cmpF_c x1 x2) rfl rfl pf_nil (fun _ _ _ => by exact trivial) rfl fun _ => ?_
  refine ops_nil (fin_inv rfl (any_next (fun _ a b => ⟨satNil a, b⟩) ?_))
  refine any_sq 0 [11] (by kernel_rfl) (fun _ a b => ⟨satNil a, b⟩) ?_
  refine sq_valB rfl (yld_geq rfl rfl) rfl fun r2 hr2 => ?_
  refine sq_nil ?_
  refine any_done (by kernel_rfl) ?_
  refine fin_next rfl ?_
  cases r2
  ·
   replace hr2 := of_decide_eq_false hr2
   refine run_cond_f rfl (run_skip (fin_next rfl (run_region (ops_val (yld_move rfl) rfl (ops_val (yld_arith rfl rfl rfl (wrap64 (by omega) (by omega))) rfl ?_)))))
   refine ops_val (yld_assign rfl) rfl (ops_nil (fin_inv rfl ?_))
   exact ok_again ⟨k + 1, pw_step (lt := Fc.lt) Fc.lt_trans hk hx1 hx2 (cmpF_lt (x := x1) (y := x2) (by omega))⟩ (by dsimp only; omega) ⟨rfl, rfl, rfl, trivial⟩ pf_nil (fun v _ h => by exact ⟨h.1, trivial⟩)
  ·
   replace hr2 := of_decide_eq_true hr2
   refine run_cond_t rfl (run_seq (run_region (ops_val (yld_assign rfl) rfl (ops_nil (fin_next rfl (run_ret ?_))))))
   exact ret1 Tryz.results72 () (get_bool rfl (by symm; apply decide_eq_false; exact pw_not hx1 hx2 (cmpF_ge.1 (by omega)))) pf_nil (fun _ _ _ => trivial)
end Go.Proofs.YtpdbbglpbngeiaaGreatDoor
namespace Go.Proofs.YtpdbbglpbngeiaaGreatDoor
open Go Go.Sx Go.Proofs
set_option linter.unusedVariables false
attribute [local irreducible] Code.wp wpList wpAnyH
open Go.Vs
theorem take_new {K : Type} [DecidableEq K] {l : List K} {i : Nat} {a : K} (hn : l.Nodup) (h : l[i]? = some a) : (if a ∈ l.take i then l.take i else l.take i ++ [a]) = l.take (i + 1) := by
  have ha : a ∉ l.take i := fun hm => by
    obtain ⟨h1, h2⟩ := List.getElem?_eq_some_iff.1 h
    obtain ⟨j, h3, h4⟩ := List.mem_take_iff_getElem.1 hm
    exact List.pairwise_iff_getElem.1 hn j i (by omega) h1 (by omega) (h4.trans h2.symm)
  rw [if_neg ha, List.take_add_one, h, Option.toList_some]
theorem SrtS.nodup {l : List Str} (h : SrtS l) : l.Nodup := by
  unfold List.Nodup
  refine List.Pairwise.imp ?_ h
  intro a b hab e
  exact str_irr b (e ▸ hab)
theorem chk_no {at' : List Str} {fs : List Fc} (h : ¬ ChkC at' fs) : 1 = checkC at' fs := by unfold checkC; rw [if_neg (fun q => h (chk_iff.1 q))]
theorem chk_yes {at' : List Str} {fs : List Fc} (h : ChkC at' fs) (hl : ¬ 65536 < fs.length) : 0 = checkC at' fs := by unfold checkC; rw [if_pos (chk_iff.2 h), if_neg hl]
theorem chk_big {at' : List Str} {fs : List Fc} (h : ChkC at' fs) (hl : 65536 < fs.length) : 2 = checkC at' fs := by unfold checkC; rw [if_pos (chk_iff.2 h), if_pos hl]
theorem chk_c (c : Cl) (ha : c.atoms.length ≤ 1000000000000) (hf : c.facts.length ≤ 1000000000000) : Tri Tryz.prog 25 #[Cl.val c] [] [rowF (Cl.aad c) (List.flatMap strC (Cl.atoms c)), rowF (Cl.fad c) (List.flatMap Fc.cells (Cl.facts c))] (fun _ : Unit => .int .i64 (checkC c.atoms c.facts)) (fun _ => []) (fun _ => []) := by
 refine tri_of_body Tryz.func25 rfl rfl Tryz.ntmps25 rfl fun v0 => ?_
 refine run_seq (run_region (ops_box rfl rfl fun b1 => ?_))
 refine ops_val (yld_assign rfl) rfl (ops_nil (fin_next rfl (run_seq (run_seq (run_region (ops_val (yld_field Tryz.runUnderlying28 rfl rfl rfl Tryz.sizeOf25) rfl ?_))))))
 refine ops_val (yld_load 0 Tryz.isAgg25 rfl rfl rfl) rfl ?_
 refine ops_callB (incS_c (Cl.atoms c) (Cl.aad c) (Cl.acap c) (by omega)) rfl pf_nil (fun v _ h => by exact ⟨h.1, trivial⟩) rfl fun r1 hr1 => ?_
 refine ops_val (yld_not rfl) rfl ?_
 refine ops_val (yld_move rfl) rfl ?_
 cases r1
 ·
  replace hr1 := of_decide_eq_false hr1
  refine ops_no rfl rfl rfl rfl (ops_no rfl rfl rfl rfl (ops_no rfl rfl rfl rfl (ops_no rfl rfl rfl rfl (ops_val (yld_pick_t rfl rfl) rfl ?_))))
  refine ops_nil (fin_next rfl (run_cond_t rfl (run_seq (run_region (ops_val (yld_assign rfl) rfl (ops_nil (fin_next rfl ?_)))))))
  refine run_ret ?_
  exact ret1 Tryz.results25 () (get_int rfl (chk_no (fun h => by first | exact absurd h.sa (by assumption) | exact absurd h.sf (by assumption) | exact absurd h.top (by assumption) | exact absurd h.bot (by assumption) | (have := h.ok x2 hmx2; simp_all)))) pf_nil (fun _ _ _ => trivial)
 ·
  replace hr1 := of_decide_eq_true hr1
  have hsa : SrtS (Cl.atoms c) := hr1
  refine ops_yes rfl rfl (ops_val (yld_field Tryz.runUnderlying28 rfl rfl rfl Tryz.sizeOf26) rfl ?_)
  refine ops_yes rfl rfl (ops_val (yld_load 0 Tryz.isAgg26 rfl rfl rfl) rfl ?_)
  refine ops_yes rfl rfl (ops_callB (incF_c (Cl.facts c) (Cl.fad c) (Cl.fcap c) (by omega)) rfl pf_nil (fun v _ h => by exact ⟨h.2.1, trivial⟩) rfl fun r2 hr2 => ?_)
  refine ops_yes rfl rfl (ops_val (yld_not rfl) rfl ?_)
  refine ops_val (yld_pick_f rfl rfl) rfl ?_
  refine ops_nil (fin_next rfl ?_)
  cases r2
  ·
   replace hr2 := of_decide_eq_false hr2
   refine run_cond_t rfl (run_seq (run_region (ops_val (yld_assign rfl) rfl (ops_nil (fin_next rfl (run_ret ?_))))))
   exact ret1 Tryz.results25 () (get_int rfl (chk_no (fun h => by first | exact absurd h.sa (by assumption) | exact absurd h.sf (by assumption) | exact absurd h.top (by assumption) | exact absurd h.bot (by assumption) | (have := h.ok x2 hmx2; simp_all)))) pf_nil (fun _ _ _ => trivial)
  ·
   replace hr2 := of_decide_eq_true hr2
   refine run_cond_f rfl (run_skip (fin_next rfl (run_seq (run_region (ops_mkmap rfl fun b2 => ?_)))))
   refine ops_val (yld_assign rfl) rfl (ops_nil (fin_next rfl (run_seq (run_seq (run_region (ops_val (yld_field Tryz.runUnderlying28 rfl rfl rfl Tryz.sizeOf25) rfl ?_))))))
   refine ops_val (yld_load 1 Tryz.isAgg25 rfl rfl rfl) rfl ?_
   refine ops_val (yld_lenS Tryz.runUnderlying25 rfl) rfl ?_
   refine ops_val (yld_move rfl) rfl (ops_nil (fin_next rfl (run_block (ok_fr [(1, .pointer (some ⟨b1, 0, none⟩)), (3, .map (some b2)), (20, .slice (Cl.aad c) (List.length (Cl.atoms c)) (Cl.acap c)), (21, .int .i64 (List.length (Cl.atoms c) : Int)), (22, .int .i64 ((0 : Nat) : Int))] ⟨rfl, rfl, rfl, rfl, rfl, trivial⟩ ?_))))
   refine ok_weak (H' := ((b2, .map #[] 0) :: ((b1, .cells #[.slice (Cl.aad c) (List.length (Cl.atoms c)) (Cl.acap c), .slice (Cl.fad c) (List.length (Cl.facts c)) (Cl.fcap c)] 28 (0, 0)) :: []))) (Γ' := [rowF (Cl.aad c) (List.flatMap strC (Cl.atoms c)), rowF (Cl.fad c) (List.flatMap Fc.cells (Cl.facts c))]) (pf_takeB pf_here pf_here) (fun v _ h => by exact ⟨h.1, h.2.1, trivial⟩) ?_
   refine run_loop (ι := {y : Nat × Array MapEntry × Nat // y.1 ≤ List.length (Cl.atoms c) ∧ SetE str y.2.1 (List.take y.1 (Cl.atoms c))}) (fun y => [(1, .pointer (some ⟨b1, 0, none⟩)), (3, .map (some b2)), (20, .slice (Cl.aad c) (List.length (Cl.atoms c)) (Cl.acap c)), (21, .int .i64 (List.length (Cl.atoms c) : Int)), (22, .int .i64 (y.1.1 : Int))]) (fun y => ((b2, .map y.1.2.1 y.1.2.2) :: ((b1, .cells #[.slice (Cl.aad c) (List.length (Cl.atoms c)) (Cl.acap c), .slice (Cl.fad c) (List.length (Cl.facts c)) (Cl.fcap c)] 28 (0, 0)) :: []))) (fun y => [rowF (Cl.aad c) (List.flatMap strC (Cl.atoms c)), rowF (Cl.fad c) (List.flatMap Fc.cells (Cl.facts c))]) (fun y => List.length (Cl.atoms c) - y.1.1) ⟨((0 : Nat), #[], 0), by simp, by exact SetE.nil⟩ ?_
   rintro ⟨⟨i, es, ce⟩, hi, hE⟩
   dsimp only at hi hE ⊢
   refine ok_fr [(1, .pointer (some ⟨b1, 0, none⟩)), (3, .map (some b2)), (20, .slice (Cl.aad c) (List.length (Cl.atoms c)) (Cl.acap c)), (21, .int .i64 (List.length (Cl.atoms c) : Int)), (22, .int .i64 (i : Int))] ⟨rfl, rfl, rfl, rfl, rfl, trivial⟩ ?_
   refine run_seq (run_region (ops_valB (yld_lss rfl rfl) rfl fun r3 hr3 => ?_))
   refine ops_nil (fin_next rfl (run_seq ?_))
   cases r3
   ·
    replace hr3 := of_decide_eq_false hr3
    have e9 : (List.take i (Cl.atoms c)) = Cl.atoms c := List.take_of_length_le (by omega)
    rw [e9] at hE
    refine run_cond_f rfl (run_exit rfl (fin_next rfl (run_seq (run_seq (run_region (ops_val (yld_move rfl) rfl (ops_valB (yld_lookSet (k := [42]) keyS Tryz.runUnderlying112 Tryz.zeroValue4 rfl rfl hE (fun v h _ => (h.own _ (List.mem_of_getElem? (i := 0) rfl)).1)) rfl fun r4 hr4 => ?_)))))))
    refine ops_val (yld_not rfl) rfl ?_
    refine ops_val (yld_move rfl) rfl ?_
    cases r4
    ·
     replace hr4 := dF hr4
     refine ops_no rfl rfl rfl rfl (ops_no rfl rfl rfl rfl (ops_no rfl rfl rfl rfl (ops_val (yld_pick_t rfl rfl) rfl ?_)))
     refine ops_nil (fin_next rfl (run_cond_t rfl (run_seq (run_region (ops_val (yld_assign rfl) rfl (ops_nil (fin_next rfl ?_)))))))
     refine run_ret ?_
     exact ret1 Tryz.results25 () (get_int rfl (chk_no (fun h => by first | exact absurd h.sa (by assumption) | exact absurd h.sf (by assumption) | exact absurd h.top (by assumption) | exact absurd h.bot (by assumption) | (have := h.ok x2 hmx2; simp_all)))) pf_nil (fun _ _ _ => trivial)
    ·
     replace hr4 := dT hr4
     refine ops_yes rfl rfl (ops_val (yld_move rfl) rfl (ops_yes rfl rfl (ops_valB (yld_lookSet (k := [33]) keyS Tryz.runUnderlying112 Tryz.zeroValue4 rfl rfl hE (fun v h _ => (h.own _ (List.mem_of_getElem? (i := 0) rfl)).1)) rfl fun r5 hr5 => ?_)))
     refine ops_yes rfl rfl (ops_val (yld_not rfl) rfl ?_)
     refine ops_val (yld_pick_f rfl rfl) rfl ?_
     refine ops_nil (fin_next rfl ?_)
     cases r5
     ·
      replace hr5 := dF hr5
      refine run_cond_t rfl (run_seq (run_region (ops_val (yld_assign rfl) rfl (ops_nil (fin_next rfl (run_ret ?_))))))
      exact ret1 Tryz.results25 () (get_int rfl (chk_no (fun h => by first | exact absurd h.sa (by assumption) | exact absurd h.sf (by assumption) | exact absurd h.top (by assumption) | exact absurd h.bot (by assumption) | (have := h.ok x2 hmx2; simp_all)))) pf_nil (fun _ _ _ => trivial)
     ·
      replace hr5 := dT hr5
      refine run_cond_f rfl (run_skip (fin_next rfl (run_seq (run_seq (run_region (ops_val (yld_field Tryz.runUnderlying28 rfl rfl rfl Tryz.sizeOf26) rfl ?_))))))
      refine ops_val (yld_load 1 Tryz.isAgg26 rfl rfl rfl) rfl ?_
      refine ops_val (yld_lenS Tryz.runUnderlying26 rfl) rfl ?_
      refine ops_val (yld_move rfl) rfl (ops_nil (fin_next rfl (run_block (ok_fr [(1, .pointer (some ⟨b1, 0, none⟩)), (3, .map (some b2)), (38, .slice (Cl.fad c) (List.length (Cl.facts c)) (Cl.fcap c)), (39, .int .i64 (List.length (Cl.facts c) : Int)), (40, .int .i64 ((0 : Nat) : Int))] ⟨rfl, rfl, rfl, rfl, rfl, trivial⟩ ?_))))
      refine run_loop (ι := {y : Nat // y ≤ List.length (Cl.facts c) ∧ ∀ f ∈ List.take y (Cl.facts c), factOk (Cl.atoms c) f = true}) (fun y => [(1, .pointer (some ⟨b1, 0, none⟩)), (3, .map (some b2)), (38, .slice (Cl.fad c) (List.length (Cl.facts c)) (Cl.fcap c)), (39, .int .i64 (List.length (Cl.facts c) : Int)), (40, .int .i64 (y.1 : Int))]) (fun y => ((b2, .map es ce) :: ((b1, .cells #[.slice (Cl.aad c) (List.length (Cl.atoms c)) (Cl.acap c), .slice (Cl.fad c) (List.length (Cl.facts c)) (Cl.fcap c)] 28 (0, 0)) :: []))) (fun y => [rowF (Cl.aad c) (List.flatMap strC (Cl.atoms c)), rowF (Cl.fad c) (List.flatMap Fc.cells (Cl.facts c))]) (fun y => List.length (Cl.facts c) - y.1) ⟨(0 : Nat), by simp, by simp⟩ ?_
      rintro ⟨j, hj, hall⟩
      dsimp only at hj hall ⊢
      refine ok_fr [(1, .pointer (some ⟨b1, 0, none⟩)), (3, .map (some b2)), (38, .slice (Cl.fad c) (List.length (Cl.facts c)) (Cl.fcap c)), (39, .int .i64 (List.length (Cl.facts c) : Int)), (40, .int .i64 (j : Int))] ⟨rfl, rfl, rfl, rfl, rfl, trivial⟩ ?_
      refine run_seq (run_region (ops_valB (yld_lss rfl rfl) rfl fun r6 hr6 => ?_))
      refine ops_nil (fin_next rfl (run_seq ?_))
      cases r6
      ·
       replace hr6 := of_decide_eq_false hr6
       refine run_cond_f rfl (run_exit rfl (fin_next rfl (run_seq (run_seq (run_region (ops_val (yld_field Tryz.runUnderlying28 rfl rfl rfl Tryz.sizeOf26) rfl ?_))))))
       refine ops_val (yld_load 1 Tryz.isAgg26 rfl rfl rfl) rfl ?_
       refine ops_val (yld_lenS Tryz.runUnderlying26 rfl) rfl ?_
       refine ops_valB (yld_gtr rfl rfl) rfl fun r7 hr7 => ?_
       refine ops_nil (fin_next rfl ?_)
       cases r7
       ·
        replace hr7 := of_decide_eq_false hr7
        refine run_cond_f rfl (run_skip (fin_next rfl (run_seq (run_region (ops_val (yld_assign rfl) rfl (ops_nil (fin_next rfl ?_)))))))
        refine run_ret ?_
        exact ret1 Tryz.results25 () (get_int rfl (chk_yes ⟨by assumption, by assumption, by assumption, by assumption, by rwa [List.take_of_length_le (by omega)] at hall⟩ (by omega))) pf_nil (fun _ _ _ => trivial)
       ·
        replace hr7 := of_decide_eq_true hr7
        refine run_cond_t rfl (run_seq (run_region (ops_val (yld_assign rfl) rfl (ops_nil (fin_next rfl (run_ret ?_))))))
        exact ret1 Tryz.results25 () (get_int rfl (chk_big ⟨by assumption, by assumption, by assumption, by assumption, by rwa [List.take_of_length_le (by omega)] at hall⟩ (by omega))) pf_nil (fun _ _ _ => trivial)
      ·
       replace hr6 := of_decide_eq_true hr6
       have hlx2 : j < List.length (Cl.facts c) := by omega
       obtain ⟨x2, hx2⟩ : ∃ e0, (Cl.facts c)[j]? = some e0 := ⟨_, List.getElem?_eq_getElem hlx2⟩
       have hmx2 : x2 ∈ (Cl.facts c) := List.mem_of_getElem? hx2
       refine run_cond_t rfl (run_skip (fin_next rfl (run_seq (run_block (run_seq (run_region (ops_val (yld_indexR Tryz.runUnderlying26 Tryz.sizeOf41 rfl rfl (fun v _ h => row_adr (n := 6) Fc.cells_len (by decide) (by exact h.2.1) hx2) (by omega) (by first | omega | (simp; done))) rfl ?_)))))))
       refine ops_val (yld_loadRS (ad := (Cl.fad c)) (us := Fc.cells x2) Tryz.isAgg41 Tryz.sizeOf41 rfl (fun v _ h => by exact h.2.1) (Fc.cells_len _) (row_cells Fc.cells_len hx2)) rfl ?_
       refine ops_alloc Tryz.zeroValue41 rfl fun b3 => ?_
       refine ops_store 0 Tryz.sizeOf41 rfl rfl rfl rfl rfl rfl ?_
       refine ops_nil (fin_next rfl (run_seq (run_region (ops_val (yld_loadS 0 Tryz.isAgg41 Tryz.sizeOf41 rfl rfl rfl) rfl ?_))))
       refine ops_val (yld_move rfl) rfl (ops_callB (isFact_c x2 (Cl.atoms c) b2 es ce hE) rfl (pf_cons pf_here) (fun _ _ _ => by exact trivial) rfl fun r8 hr8 => ?_)
       refine ops_val (yld_not rfl) rfl ?_
       refine ops_nil (fin_next rfl ?_)
       cases r8
       ·
        refine run_cond_t rfl (run_seq (run_region (ops_val (yld_assign rfl) rfl (ops_nil (fin_next rfl (run_ret ?_))))))
        exact ret1 Tryz.results25 () (get_int rfl (chk_no (fun h => by first | exact absurd h.sa (by assumption) | exact absurd h.sf (by assumption) | exact absurd h.top (by assumption) | exact absurd h.bot (by assumption) | (have := h.ok x2 hmx2; simp_all)))) pf_nil (fun _ _ _ => trivial)
       ·
        refine run_cond_f rfl (run_skip (fin_next rfl (run_region (ops_val (yld_arith rfl rfl rfl (wrap64 (by omega) (by omega))) rfl ?_))))
        refine ops_val (yld_move rfl) rfl (ops_nil (fin_inv rfl ?_))
        exact ok_again ⟨j + 1, hlx2, fun y hy => by rw [List.take_add_one, hx2] at hy; simp only [Option.toList_some, List.mem_append, List.mem_singleton] at hy; rcases hy with hy | rfl; exact hall y hy; simp_all⟩ (by dsimp only; omega) ⟨rfl, rfl, rfl, rfl, rfl, trivial⟩ (pf_takeB pf_here (pf_cons pf_here)) (fun v _ h => by exact ⟨h.1, h.2.1, trivial⟩)
   ·
    replace hr3 := of_decide_eq_true hr3
    have hlx1 : i < List.length (Cl.atoms c) := by omega
    obtain ⟨x1, hx1⟩ : ∃ e0, (Cl.atoms c)[i]? = some e0 := ⟨_, List.getElem?_eq_getElem hlx1⟩
    have hmx1 : x1 ∈ (Cl.atoms c) := List.mem_of_getElem? hx1
    refine run_cond_t rfl (run_skip (fin_next rfl (run_seq (run_block (run_seq (run_region (ops_val (yld_indexR Tryz.runUnderlying25 Tryz.sizeOf9 rfl rfl (fun v _ h => row_adr (n := 1) strC_len (by decide) (by exact h.1) hx1) (by omega) (by first | omega | (simp; done))) rfl ?_)))))))
    refine ops_val (yld_loadR (ad := (Cl.aad c)) Tryz.isAgg9 rfl (fun v _ h => by exact h.1) (row_cells strC_len hx1 0 _ rfl)) rfl ?_
    refine ops_val (yld_assign rfl) rfl (ops_nil (fin_next rfl (run_region (ops_val (yld_move rfl) rfl (ops_val (yld_move rfl) rfl (ops_join (k := x1) 0 keyS (.inr rfl) Tryz.runUnderlying112 rfl rfl rfl rfl hE fun ej1 cj1 hj1 => ?_))))))
    refine ops_nil (fin_next rfl (run_region (ops_val (yld_arith rfl rfl rfl (wrap64 (by omega) (by omega))) rfl ?_)))
    refine ops_val (yld_move rfl) rfl (ops_nil (fin_inv rfl ?_))
    exact ok_again ⟨(i + 1, ej1, cj1), hlx1, (take_new hsa.nodup hx1) ▸ hj1⟩ (by dsimp only; omega) ⟨rfl, rfl, rfl, rfl, rfl, trivial⟩ (pf_takeB pf_here pf_here) (fun v _ h => by exact ⟨h.1, h.2.1, trivial⟩)
/-- what Derives answers -/
def derB (fs : List Fc) (f : Fc) : Bool := fs.any fun x => (decide (x = f) || decide (x = fsub f.a [33])) || ((decide (f = fspan f.a f.r f.lo f.hi) && decide (x = fspan f.a f.r x.lo x.hi)) && (decide (f.lo ≤ x.lo) && decide (x.hi ≤ f.hi)))
def der1 (f x : Fc) : Bool := (decide (x = f) || decide (x = fsub f.a [33])) || ((decide (f = fspan f.a f.r f.lo f.hi) && decide (x = fspan f.a f.r x.lo x.hi)) && (decide (f.lo ≤ x.lo) && decide (x.hi ≤ f.hi)))
theorem any_no {α : Type} {p : α → Bool} {l : List α} {j : Nat} {x : α} (h : ∀ y ∈ l.take j, p y = false) (hx : l[j]? = some x) (hp : p x = false) : ∀ y ∈ l.take (j + 1), p y = false := fun y hy => by
  rw [List.take_add_one, hx] at hy
  simp only [Option.toList_some, List.mem_append, List.mem_singleton] at hy
  rcases hy with hy | rfl
  · exact h y hy
  · exact hp
theorem any_end {α : Type} {p : α → Bool} {l : List α} {j : Nat} (h : ∀ y ∈ l.take j, p y = false) (hj : l.length ≤ j) : false = l.any p := by
  rw [List.take_of_length_le hj] at h
  symm; rw [List.any_eq_false]; exact fun y hy => by simp [h y hy]
theorem any_here {α : Type} {p : α → Bool} {l : List α} {x : α} (hx : x ∈ l) (hp : p x = true) : true = l.any p := (List.any_eq_true.2 ⟨x, hx, hp⟩).symm
theorem der_c (c : Cl) (f : Fc) (hf : c.facts.length ≤ 1000000000000) : Tri Tryz.prog 46 #[Cl.val c, Fc.val f] [] [rowF (Cl.fad c) (List.flatMap Fc.cells (Cl.facts c))] (fun _ : Unit => .bool (derB c.facts f)) (fun _ => []) (fun _ => []) := by
 refine tri_of_body Tryz.func46 rfl rfl Tryz.ntmps46 rfl fun v0 => ?_
 refine run_seq (run_region (ops_box rfl rfl fun b1 => ?_))
 refine ops_box rfl rfl fun b2 => ?_
 refine ops_val (yld_assign rfl) rfl (ops_nil (fin_next rfl (run_seq (run_region (ops_val (yld_field Tryz.runUnderlying41 rfl rfl rfl Tryz.sizeOf9) rfl ?_)))))
 refine ops_val (yld_load 0 Tryz.isAgg9 rfl rfl rfl) rfl ?_
 refine ops_call (sub_c (Fc.a f) [33]) rfl pf_nil (fun _ _ _ => by exact trivial) rfl fun _ => ?_
 refine ops_alloc Tryz.zeroValue41 rfl fun b3 => ?_
 refine ops_store 0 Tryz.sizeOf41 rfl rfl rfl rfl rfl rfl ?_
 refine ops_nil (fin_next rfl (run_seq ?_))
 refine run_draw' (by kernel_rfl) ?_
 refine any_sq 3 [0, 1, 2, 3, 4, 5, 6, 7, 8] (by kernel_rfl) (fun _ a b => ⟨a, b⟩) ?_
 refine sq_val rfl (yld_loadS 1 Tryz.isAgg41 Tryz.sizeOf41 rfl rfl rfl) rfl ?_
 refine sq_val rfl (yld_field Tryz.runUnderlying41 rfl rfl rfl Tryz.sizeOf9) rfl ?_
 refine sq_val rfl (yld_load 1 Tryz.isAgg9 rfl rfl rfl) rfl ?_
 refine sq_val rfl (yld_field Tryz.runUnderlying41 rfl rfl rfl Tryz.sizeOf9) rfl ?_
 refine sq_val rfl (yld_load 1 Tryz.isAgg9 rfl rfl rfl) rfl ?_
 refine sq_val rfl (yld_field Tryz.runUnderlying41 rfl rfl rfl Tryz.sizeOf3) rfl ?_
 refine sq_val rfl (yld_load 1 Tryz.isAgg3 rfl rfl rfl) rfl ?_
 refine sq_val rfl (yld_field Tryz.runUnderlying41 rfl rfl rfl Tryz.sizeOf3) rfl ?_
 refine sq_val rfl (yld_load 1 Tryz.isAgg3 rfl rfl rfl) rfl ?_
 refine sq_nil ?_
 refine any_one 9 rfl (by kernel_rfl) ?_
 refine ops_call (span_c (Fc.a f) (Fc.r f) (Fc.lo f) (Fc.hi f)) rfl pf_nil (fun _ _ _ => by exact trivial) rfl fun _ => ?_
 refine ops_nil (fin_inv rfl (any_next (fun _ a b => ⟨a, b⟩) ?_))
 refine any_sq 0 [10, 11] (by kernel_rfl) (fun _ a b => ⟨a, b⟩) ?_
 refine sq_valB rfl (yld_eqlFc (p := f) (q := (fspan (Fc.a f) (Fc.r f) (Fc.lo f) (Fc.hi f))) rfl rfl) rfl fun r1 hr1 => ?_
 refine sq_val rfl (yld_assign rfl) rfl ?_
 refine sq_nil ?_
 refine any_done (by kernel_rfl) ?_
 refine fin_next rfl (run_seq (run_seq (run_region (ops_val (yld_field Tryz.runUnderlying28 rfl rfl rfl Tryz.sizeOf26) rfl ?_))))
 refine ops_val (yld_load 2 Tryz.isAgg26 rfl rfl rfl) rfl ?_
 refine ops_val (yld_lenS Tryz.runUnderlying26 rfl) rfl ?_
 refine ops_val (yld_move rfl) rfl (ops_nil (fin_next rfl (run_block ?_)))
 cases r1
 ·
  replace hr1 := of_decide_eq_false hr1
  refine ok_fr [(2, .pointer (some ⟨b1, 0, none⟩)), (3, .pointer (some ⟨b2, 0, none⟩)), (5, .pointer (some ⟨b3, 0, none⟩)), (6, .bool false), (24, .slice (Cl.fad c) (List.length (Cl.facts c)) (Cl.fcap c)), (25, .int .i64 (List.length (Cl.facts c) : Int)), (26, .int .i64 ((0 : Nat) : Int))] ⟨rfl, rfl, rfl, rfl, rfl, rfl, rfl, trivial⟩ ?_
  refine run_loop (ι := {y : Nat // y ≤ List.length (Cl.facts c) ∧ ∀ z ∈ List.take y (Cl.facts c), der1 f z = false}) (fun y => [(2, .pointer (some ⟨b1, 0, none⟩)), (3, .pointer (some ⟨b2, 0, none⟩)), (5, .pointer (some ⟨b3, 0, none⟩)), (6, .bool false), (24, .slice (Cl.fad c) (List.length (Cl.facts c)) (Cl.fcap c)), (25, .int .i64 (List.length (Cl.facts c) : Int)), (26, .int .i64 (y.1 : Int))]) (fun y => ((b3, .cells #[.int .i64 (Fc.kind (fsub (Fc.a f) [33])), str (Fc.a (fsub (Fc.a f) [33])), str (Fc.b (fsub (Fc.a f) [33])), str (Fc.r (fsub (Fc.a f) [33])), .int .i64 (Fc.lo (fsub (Fc.a f) [33])), .int .i64 (Fc.hi (fsub (Fc.a f) [33]))] 41 (0, 0)) :: ((b2, .cells #[.int .i64 (Fc.kind f), str (Fc.a f), str (Fc.b f), str (Fc.r f), .int .i64 (Fc.lo f), .int .i64 (Fc.hi f)] 41 (0, 0)) :: ((b1, .cells #[.slice (Cl.aad c) (List.length (Cl.atoms c)) (Cl.acap c), .slice (Cl.fad c) (List.length (Cl.facts c)) (Cl.fcap c)] 28 (0, 0)) :: [])))) (fun y => [rowF (Cl.fad c) (List.flatMap Fc.cells (Cl.facts c))]) (fun y => List.length (Cl.facts c) - y.1) ⟨(0 : Nat), by simp, by simp⟩ ?_
  rintro ⟨j, hj, hall⟩
  dsimp only at hj hall ⊢
  refine ok_fr [(2, .pointer (some ⟨b1, 0, none⟩)), (3, .pointer (some ⟨b2, 0, none⟩)), (5, .pointer (some ⟨b3, 0, none⟩)), (6, .bool false), (24, .slice (Cl.fad c) (List.length (Cl.facts c)) (Cl.fcap c)), (25, .int .i64 (List.length (Cl.facts c) : Int)), (26, .int .i64 (j : Int))] ⟨rfl, rfl, rfl, rfl, rfl, rfl, rfl, trivial⟩ ?_
  refine run_seq (run_region (ops_valB (yld_lss rfl rfl) rfl fun r2 hr2 => ?_))
  refine ops_nil (fin_next rfl (run_seq ?_))
  cases r2
  ·
   replace hr2 := of_decide_eq_false hr2
   refine run_cond_f rfl (run_exit rfl (fin_next rfl (run_seq (run_region (ops_val (yld_assign rfl) rfl (ops_nil (fin_next rfl ?_)))))))
   refine run_ret ?_
   exact ret1 Tryz.results46 () (get_bool rfl (any_end hall (by omega))) pf_nil (fun _ _ _ => trivial)
  ·
   replace hr2 := of_decide_eq_true hr2
   have hlx2 : j < List.length (Cl.facts c) := by omega
   obtain ⟨x2, hx2⟩ : ∃ e0, (Cl.facts c)[j]? = some e0 := ⟨_, List.getElem?_eq_getElem hlx2⟩
   have hmx2 : x2 ∈ (Cl.facts c) := List.mem_of_getElem? hx2
   refine run_cond_t rfl (run_skip (fin_next rfl (run_seq (run_block (run_seq (run_region (ops_val (yld_indexR Tryz.runUnderlying26 Tryz.sizeOf41 rfl rfl (fun v _ h => row_adr (n := 6) Fc.cells_len (by decide) (by exact h.1) hx2) (by omega) (by first | omega | (simp; done))) rfl ?_)))))))
   refine ops_val (yld_loadRS (ad := (Cl.fad c)) (us := Fc.cells x2) Tryz.isAgg41 Tryz.sizeOf41 rfl (fun v _ h => by exact h.1) (Fc.cells_len _) (row_cells Fc.cells_len hx2)) rfl ?_
   refine ops_alloc Tryz.zeroValue41 rfl fun b4 => ?_
   refine ops_store 0 Tryz.sizeOf41 rfl rfl rfl rfl rfl rfl ?_
   refine ops_nil (fin_next rfl (run_seq (run_seq (run_region (ops_val (yld_loadS 0 Tryz.isAgg41 Tryz.sizeOf41 rfl rfl rfl) rfl ?_)))))
   refine ops_val (yld_loadS 2 Tryz.isAgg41 Tryz.sizeOf41 rfl rfl rfl) rfl ?_
   refine ops_valB (yld_eqlFc (p := x2) (q := f) rfl rfl) rfl fun r3 hr3 => ?_
   refine ops_val (yld_move rfl) rfl ?_
   cases r3
   ·
    replace hr3 := of_decide_eq_false hr3
    refine ops_yes rfl rfl (ops_val (yld_loadS 0 Tryz.isAgg41 Tryz.sizeOf41 rfl rfl rfl) rfl ?_)
    refine ops_yes rfl rfl (ops_val (yld_loadS 1 Tryz.isAgg41 Tryz.sizeOf41 rfl rfl rfl) rfl ?_)
    refine ops_yes rfl rfl (ops_valB (yld_eqlFc (p := x2) (q := (fsub (Fc.a f) [33])) rfl rfl) rfl fun r4 hr4 => ?_)
    refine ops_val (yld_pick_f rfl rfl) rfl ?_
    refine ops_nil (fin_next rfl ?_)
    cases r4
    ·
     replace hr4 := of_decide_eq_false hr4
     refine run_cond_f rfl (run_skip (fin_next rfl (run_seq ?_)))
     refine run_draw' (by kernel_rfl) ?_
     refine any_sq 0 [0, 1, 2, 3, 4, 5, 6, 7, 8, 9, 10, 11, 12, 13, 14, 15, 16, 17, 18, 19, 20, 21, 22, 23, 24, 25, 26, 27] (by kernel_rfl) (fun _ a b => ⟨a, b⟩) ?_
     refine sq_val rfl (yld_move rfl) rfl ?_
     refine sq_val rfl (yld_move rfl) rfl ?_
     refine sq_no rfl rfl rfl rfl rfl ?_
     refine sq_no rfl rfl rfl rfl rfl ?_
     refine sq_no rfl rfl rfl rfl rfl ?_
     refine sq_no rfl rfl rfl rfl rfl ?_
     refine sq_no rfl rfl rfl rfl rfl ?_
     refine sq_no rfl rfl rfl rfl rfl ?_
     refine sq_no rfl rfl rfl rfl rfl ?_
     refine sq_no rfl rfl rfl rfl rfl ?_
     refine sq_no rfl rfl rfl rfl rfl ?_
     refine sq_no rfl rfl rfl rfl rfl ?_
     refine sq_no rfl rfl rfl rfl rfl ?_
     refine sq_val rfl (yld_pick_f rfl rfl) rfl ?_
     refine sq_val rfl (yld_move rfl) rfl ?_
     refine sq_no rfl rfl rfl rfl rfl ?_
     refine sq_no rfl rfl rfl rfl rfl ?_
     refine sq_no rfl rfl rfl rfl rfl ?_
     refine sq_no rfl rfl rfl rfl rfl ?_
     refine sq_no rfl rfl rfl rfl rfl ?_
     refine sq_val rfl (yld_pick_f rfl rfl) rfl ?_
     refine sq_val rfl (yld_move rfl) rfl ?_
     refine sq_no rfl rfl rfl rfl rfl ?_
     refine sq_no rfl rfl rfl rfl rfl ?_
     refine sq_no rfl rfl rfl rfl rfl ?_
     refine sq_no rfl rfl rfl rfl rfl ?_
     refine sq_no rfl rfl rfl rfl rfl ?_
     refine sq_val rfl (yld_pick_f rfl rfl) rfl ?_
     refine sq_nil ?_
     refine any_done (by kernel_rfl) ?_
     refine fin_next rfl (run_cond_f rfl (run_skip (fin_next rfl (run_region (ops_val (yld_arith rfl rfl rfl (wrap64 (by omega) (by omega))) rfl ?_)))))
     refine ops_val (yld_move rfl) rfl (ops_nil (fin_inv rfl ?_))
     exact ok_again ⟨j + 1, hlx2, any_no hall hx2 (by have p1 := eq_false hr1; have p2 := eq_true hr2; have p3 := eq_false hr3; have p4 := eq_false hr4; simp only [der1, p1, p2, p3, p4, if_true, if_false, decide_true, decide_false, Bool.and_true, Bool.and_false, Bool.true_and, Bool.false_and, Bool.or_true, Bool.or_false, Bool.true_or, Bool.false_or, Bool.not_true, Bool.not_false, ne_eq, not_true_eq_false, not_false_eq_true, true_and, and_true, false_and, and_false, true_or, or_true, false_or, or_false, ite_true, ite_false, Bool.false_eq_true])⟩ (by dsimp only; omega) ⟨rfl, rfl, rfl, rfl, rfl, rfl, rfl, trivial⟩ (pf_takeB (pf_cons pf_here) (pf_takeB (pf_cons pf_here) (pf_cons pf_here))) (fun v _ h => by exact ⟨h.1, trivial⟩)
    ·
     replace hr4 := of_decide_eq_true hr4
     refine run_cond_t rfl (run_seq (run_region (ops_val (yld_assign rfl) rfl (ops_nil (fin_next rfl (run_ret ?_))))))
     exact ret1 Tryz.results46 () (get_bool rfl (any_here hmx2 (by have p1 := eq_false hr1; have p2 := eq_true hr2; have p3 := eq_false hr3; have p4 := eq_true hr4; simp only [der1, p1, p2, p3, p4, if_true, if_false, decide_true, decide_false, Bool.and_true, Bool.and_false, Bool.true_and, Bool.false_and, Bool.or_true, Bool.or_false, Bool.true_or, Bool.false_or, Bool.not_true, Bool.not_false, ne_eq, not_true_eq_false, not_false_eq_true, true_and, and_true, false_and, and_false, true_or, or_true, false_or, or_false, ite_true, ite_false, Bool.false_eq_true]))) pf_nil (fun _ _ _ => trivial)
   ·
    replace hr3 := of_decide_eq_true hr3
    refine ops_no rfl rfl rfl rfl (ops_no rfl rfl rfl rfl (ops_no rfl rfl rfl rfl (ops_val (yld_pick_t rfl rfl) rfl ?_)))
    refine ops_nil (fin_next rfl (run_cond_t rfl (run_seq (run_region (ops_val (yld_assign rfl) rfl (ops_nil (fin_next rfl ?_)))))))
    refine run_ret ?_
    exact ret1 Tryz.results46 () (get_bool rfl (any_here hmx2 (by have p1 := eq_false hr1; have p2 := eq_true hr2; have p3 := eq_true hr3; simp only [der1, p1, p2, p3, if_true, if_false, decide_true, decide_false, Bool.and_true, Bool.and_false, Bool.true_and, Bool.false_and, Bool.or_true, Bool.or_false, Bool.true_or, Bool.false_or, Bool.not_true, Bool.not_false, ne_eq, not_true_eq_false, not_false_eq_true, true_and, and_true, false_and, and_false, true_or, or_true, false_or, or_false, ite_true, ite_false, Bool.false_eq_true]))) pf_nil (fun _ _ _ => trivial)
 ·
  replace hr1 := of_decide_eq_true hr1
  refine ok_fr [(2, .pointer (some ⟨b1, 0, none⟩)), (3, .pointer (some ⟨b2, 0, none⟩)), (5, .pointer (some ⟨b3, 0, none⟩)), (6, .bool true), (24, .slice (Cl.fad c) (List.length (Cl.facts c)) (Cl.fcap c)), (25, .int .i64 (List.length (Cl.facts c) : Int)), (26, .int .i64 ((0 : Nat) : Int))] ⟨rfl, rfl, rfl, rfl, rfl, rfl, rfl, trivial⟩ ?_
  refine run_loop (ι := {y : Nat // y ≤ List.length (Cl.facts c) ∧ ∀ z ∈ List.take y (Cl.facts c), der1 f z = false}) (fun y => [(2, .pointer (some ⟨b1, 0, none⟩)), (3, .pointer (some ⟨b2, 0, none⟩)), (5, .pointer (some ⟨b3, 0, none⟩)), (6, .bool true), (24, .slice (Cl.fad c) (List.length (Cl.facts c)) (Cl.fcap c)), (25, .int .i64 (List.length (Cl.facts c) : Int)), (26, .int .i64 (y.1 : Int))]) (fun y => ((b3, .cells #[.int .i64 (Fc.kind (fsub (Fc.a f) [33])), str (Fc.a (fsub (Fc.a f) [33])), str (Fc.b (fsub (Fc.a f) [33])), str (Fc.r (fsub (Fc.a f) [33])), .int .i64 (Fc.lo (fsub (Fc.a f) [33])), .int .i64 (Fc.hi (fsub (Fc.a f) [33]))] 41 (0, 0)) :: ((b2, .cells #[.int .i64 (Fc.kind f), str (Fc.a f), str (Fc.b f), str (Fc.r f), .int .i64 (Fc.lo f), .int .i64 (Fc.hi f)] 41 (0, 0)) :: ((b1, .cells #[.slice (Cl.aad c) (List.length (Cl.atoms c)) (Cl.acap c), .slice (Cl.fad c) (List.length (Cl.facts c)) (Cl.fcap c)] 28 (0, 0)) :: [])))) (fun y => [rowF (Cl.fad c) (List.flatMap Fc.cells (Cl.facts c))]) (fun y => List.length (Cl.facts c) - y.1) ⟨(0 : Nat), by simp, by simp⟩ ?_
  rintro ⟨j, hj, hall⟩
  dsimp only at hj hall ⊢
  refine ok_fr [(2, .pointer (some ⟨b1, 0, none⟩)), (3, .pointer (some ⟨b2, 0, none⟩)), (5, .pointer (some ⟨b3, 0, none⟩)), (6, .bool true), (24, .slice (Cl.fad c) (List.length (Cl.facts c)) (Cl.fcap c)), (25, .int .i64 (List.length (Cl.facts c) : Int)), (26, .int .i64 (j : Int))] ⟨rfl, rfl, rfl, rfl, rfl, rfl, rfl, trivial⟩ ?_
  refine run_seq (run_region (ops_valB (yld_lss rfl rfl) rfl fun r5 hr5 => ?_))
  refine ops_nil (fin_next rfl (run_seq ?_))
  cases r5
  ·
   replace hr5 := of_decide_eq_false hr5
   refine run_cond_f rfl (run_exit rfl (fin_next rfl (run_seq (run_region (ops_val (yld_assign rfl) rfl (ops_nil (fin_next rfl ?_)))))))
   refine run_ret ?_
   exact ret1 Tryz.results46 () (get_bool rfl (any_end hall (by omega))) pf_nil (fun _ _ _ => trivial)
  ·
   replace hr5 := of_decide_eq_true hr5
   have hlx2 : j < List.length (Cl.facts c) := by omega
   obtain ⟨x2, hx2⟩ : ∃ e0, (Cl.facts c)[j]? = some e0 := ⟨_, List.getElem?_eq_getElem hlx2⟩
   have hmx2 : x2 ∈ (Cl.facts c) := List.mem_of_getElem? hx2
   refine run_cond_t rfl (run_skip (fin_next rfl (run_seq (run_block (run_seq (run_region (ops_val (yld_indexR Tryz.runUnderlying26 Tryz.sizeOf41 rfl rfl (fun v _ h => row_adr (n := 6) Fc.cells_len (by decide) (by exact h.1) hx2) (by omega) (by first | omega | (simp; done))) rfl ?_)))))))
   refine ops_val (yld_loadRS (ad := (Cl.fad c)) (us := Fc.cells x2) Tryz.isAgg41 Tryz.sizeOf41 rfl (fun v _ h => by exact h.1) (Fc.cells_len _) (row_cells Fc.cells_len hx2)) rfl ?_
   refine ops_alloc Tryz.zeroValue41 rfl fun b5 => ?_
   refine ops_store 0 Tryz.sizeOf41 rfl rfl rfl rfl rfl rfl ?_
   refine ops_nil (fin_next rfl (run_seq (run_seq (run_region (ops_val (yld_loadS 0 Tryz.isAgg41 Tryz.sizeOf41 rfl rfl rfl) rfl ?_)))))
   refine ops_val (yld_loadS 2 Tryz.isAgg41 Tryz.sizeOf41 rfl rfl rfl) rfl ?_
   refine ops_valB (yld_eqlFc (p := x2) (q := f) rfl rfl) rfl fun r6 hr6 => ?_
   refine ops_val (yld_move rfl) rfl ?_
   cases r6
   ·
    replace hr6 := of_decide_eq_false hr6
    refine ops_yes rfl rfl (ops_val (yld_loadS 0 Tryz.isAgg41 Tryz.sizeOf41 rfl rfl rfl) rfl ?_)
    refine ops_yes rfl rfl (ops_val (yld_loadS 1 Tryz.isAgg41 Tryz.sizeOf41 rfl rfl rfl) rfl ?_)
    refine ops_yes rfl rfl (ops_valB (yld_eqlFc (p := x2) (q := (fsub (Fc.a f) [33])) rfl rfl) rfl fun r7 hr7 => ?_)
    refine ops_val (yld_pick_f rfl rfl) rfl ?_
    refine ops_nil (fin_next rfl ?_)
    cases r7
    ·
     replace hr7 := of_decide_eq_false hr7
     refine run_cond_f rfl (run_skip (fin_next rfl (run_seq ?_)))
     refine run_draw' (by kernel_rfl) ?_
     refine any_sq 17 [0, 1, 2, 3, 4, 5, 6, 7, 8, 9, 10] (by kernel_rfl) (fun _ a b => ⟨a, b⟩) ?_
     refine sq_val rfl (yld_move rfl) rfl ?_
     refine sq_val rfl (yld_move rfl) rfl ?_
     refine sq_valY rfl rfl rfl (yld_loadS 0 Tryz.isAgg41 Tryz.sizeOf41 rfl rfl rfl) rfl ?_
     refine sq_valY rfl rfl rfl (yld_field Tryz.runUnderlying41 rfl rfl rfl Tryz.sizeOf9) rfl ?_
     refine sq_valY rfl rfl rfl (yld_load 2 Tryz.isAgg9 rfl rfl rfl) rfl ?_
     refine sq_valY rfl rfl rfl (yld_field Tryz.runUnderlying41 rfl rfl rfl Tryz.sizeOf9) rfl ?_
     refine sq_valY rfl rfl rfl (yld_load 2 Tryz.isAgg9 rfl rfl rfl) rfl ?_
     refine sq_valY rfl rfl rfl (yld_field Tryz.runUnderlying41 rfl rfl rfl Tryz.sizeOf3) rfl ?_
     refine sq_valY rfl rfl rfl (yld_load 0 Tryz.isAgg3 rfl rfl rfl) rfl ?_
     refine sq_valY rfl rfl rfl (yld_field Tryz.runUnderlying41 rfl rfl rfl Tryz.sizeOf3) rfl ?_
     refine sq_valY rfl rfl rfl (yld_load 0 Tryz.isAgg3 rfl rfl rfl) rfl ?_
     refine sq_nil ?_
     refine any_one 11 rfl (by kernel_rfl) ?_
     refine ops_yes rfl rfl (ops_call (span_c (Fc.a f) (Fc.r f) (Fc.lo x2) (Fc.hi x2)) rfl pf_nil (fun _ _ _ => by exact trivial) rfl fun _ => ?_)
     refine ops_nil (fin_inv rfl (any_next (fun _ a b => ⟨a, b⟩) ?_))
     refine any_sq 13 [12, 13, 14] (by kernel_rfl) (fun _ a b => ⟨a, b⟩) ?_
     refine sq_valYB rfl rfl rfl (yld_eqlFc (p := x2) (q := (fspan (Fc.a f) (Fc.r f) (Fc.lo x2) (Fc.hi x2))) rfl rfl) rfl fun r8 hr8 => ?_
     refine sq_val rfl (yld_pick_t rfl rfl) rfl ?_
     refine sq_val rfl (yld_move rfl) rfl ?_
     refine sq_nil ?_
     cases r8
     ·
      replace hr8 := of_decide_eq_false hr8
      refine any_sq 0 [15, 16, 17, 18, 19, 20, 21, 22, 23, 24, 25, 26, 27] (by kernel_rfl) (fun _ a b => ⟨a, b⟩) ?_
      refine sq_no rfl rfl rfl rfl rfl ?_
      refine sq_no rfl rfl rfl rfl rfl ?_
      refine sq_no rfl rfl rfl rfl rfl ?_
      refine sq_no rfl rfl rfl rfl rfl ?_
      refine sq_no rfl rfl rfl rfl rfl ?_
      refine sq_val rfl (yld_pick_f rfl rfl) rfl ?_
      refine sq_val rfl (yld_move rfl) rfl ?_
      refine sq_no rfl rfl rfl rfl rfl ?_
      refine sq_no rfl rfl rfl rfl rfl ?_
      refine sq_no rfl rfl rfl rfl rfl ?_
      refine sq_no rfl rfl rfl rfl rfl ?_
      refine sq_no rfl rfl rfl rfl rfl ?_
      refine sq_val rfl (yld_pick_f rfl rfl) rfl ?_
      refine sq_nil ?_
      refine any_done (by kernel_rfl) ?_
      refine fin_next rfl (run_cond_f rfl (run_skip (fin_next rfl (run_region (ops_val (yld_arith rfl rfl rfl (wrap64 (by omega) (by omega))) rfl ?_)))))
      refine ops_val (yld_move rfl) rfl (ops_nil (fin_inv rfl ?_))
      exact ok_again ⟨j + 1, hlx2, any_no hall hx2 (by have p1 := eq_true hr1; have p2 := eq_true hr5; have p3 := eq_false hr6; have p4 := eq_false hr7; have p5 := eq_false hr8; simp only [der1, p1, p2, p3, p4, p5, if_true, if_false, decide_true, decide_false, Bool.and_true, Bool.and_false, Bool.true_and, Bool.false_and, Bool.or_true, Bool.or_false, Bool.true_or, Bool.false_or, Bool.not_true, Bool.not_false, ne_eq, not_true_eq_false, not_false_eq_true, true_and, and_true, false_and, and_false, true_or, or_true, false_or, or_false, ite_true, ite_false, Bool.false_eq_true])⟩ (by dsimp only; omega) ⟨rfl, rfl, rfl, rfl, rfl, rfl, rfl, trivial⟩ (pf_takeB (pf_cons pf_here) (pf_takeB (pf_cons pf_here) (pf_cons pf_here))) (fun v _ h => by exact ⟨h.1, trivial⟩)
     ·
      replace hr8 := of_decide_eq_true hr8
      refine any_sq 6 [15, 16, 17, 18, 19, 20, 21] (by kernel_rfl) (fun _ a b => ⟨a, b⟩) ?_
      refine sq_valY rfl rfl rfl (yld_field Tryz.runUnderlying41 rfl rfl rfl Tryz.sizeOf3) rfl ?_
      refine sq_valY rfl rfl rfl (yld_load 0 Tryz.isAgg3 rfl rfl rfl) rfl ?_
      refine sq_valY rfl rfl rfl (yld_field Tryz.runUnderlying41 rfl rfl rfl Tryz.sizeOf3) rfl ?_
      refine sq_valY rfl rfl rfl (yld_load 2 Tryz.isAgg3 rfl rfl rfl) rfl ?_
      refine sq_valYB rfl rfl rfl (yld_geq rfl rfl) rfl fun r9 hr9 => ?_
      refine sq_val rfl (yld_pick_t rfl rfl) rfl ?_
      refine sq_val rfl (yld_move rfl) rfl ?_
      refine sq_nil ?_
      cases r9
      ·
       replace hr9 := of_decide_eq_false hr9
       refine any_sq 0 [22, 23, 24, 25, 26, 27] (by kernel_rfl) (fun _ a b => ⟨a, b⟩) ?_
       refine sq_no rfl rfl rfl rfl rfl ?_
       refine sq_no rfl rfl rfl rfl rfl ?_
       refine sq_no rfl rfl rfl rfl rfl ?_
       refine sq_no rfl rfl rfl rfl rfl ?_
       refine sq_no rfl rfl rfl rfl rfl ?_
       refine sq_val rfl (yld_pick_f rfl rfl) rfl ?_
       refine sq_nil ?_
       refine any_done (by kernel_rfl) ?_
       refine fin_next rfl (run_cond_f rfl (run_skip (fin_next rfl (run_region (ops_val (yld_arith rfl rfl rfl (wrap64 (by omega) (by omega))) rfl ?_)))))
       refine ops_val (yld_move rfl) rfl (ops_nil (fin_inv rfl ?_))
       exact ok_again ⟨j + 1, hlx2, any_no hall hx2 (by have p1 := eq_true hr1; have p2 := eq_true hr5; have p3 := eq_false hr6; have p4 := eq_false hr7; have p5 := eq_true hr8; have p6 := eq_false hr9; simp only [der1, p1, p2, p3, p4, p5, p6, if_true, if_false, decide_true, decide_false, Bool.and_true, Bool.and_false, Bool.true_and, Bool.false_and, Bool.or_true, Bool.or_false, Bool.true_or, Bool.false_or, Bool.not_true, Bool.not_false, ne_eq, not_true_eq_false, not_false_eq_true, true_and, and_true, false_and, and_false, true_or, or_true, false_or, or_false, ite_true, ite_false, Bool.false_eq_true])⟩ (by dsimp only; omega) ⟨rfl, rfl, rfl, rfl, rfl, rfl, rfl, trivial⟩ (pf_takeB (pf_cons pf_here) (pf_takeB (pf_cons pf_here) (pf_cons pf_here))) (fun v _ h => by exact ⟨h.1, trivial⟩)
      ·
       replace hr9 := of_decide_eq_true hr9
       refine any_sq 0 [22, 23, 24, 25, 26, 27] (by kernel_rfl) (fun _ a b => ⟨a, b⟩) ?_
       refine sq_valY rfl rfl rfl (yld_field Tryz.runUnderlying41 rfl rfl rfl Tryz.sizeOf3) rfl ?_
       refine sq_valY rfl rfl rfl (yld_load 0 Tryz.isAgg3 rfl rfl rfl) rfl ?_
       refine sq_valY rfl rfl rfl (yld_field Tryz.runUnderlying41 rfl rfl rfl Tryz.sizeOf3) rfl ?_
       refine sq_valY rfl rfl rfl (yld_load 2 Tryz.isAgg3 rfl rfl rfl) rfl ?_
       refine sq_valYB rfl rfl rfl (yld_leq rfl rfl) rfl fun r10 hr10 => ?_
       refine sq_val rfl (yld_pick_t rfl rfl) rfl ?_
       refine sq_nil ?_
       refine any_done (by kernel_rfl) ?_
       refine fin_next rfl ?_
       cases r10
       ·
        replace hr10 := of_decide_eq_false hr10
        refine run_cond_f rfl (run_skip (fin_next rfl (run_region (ops_val (yld_arith rfl rfl rfl (wrap64 (by omega) (by omega))) rfl ?_))))
        refine ops_val (yld_move rfl) rfl (ops_nil (fin_inv rfl ?_))
        exact ok_again ⟨j + 1, hlx2, any_no hall hx2 (by have p1 := eq_true hr1; have p2 := eq_true hr5; have p3 := eq_false hr6; have p4 := eq_false hr7; have p5 := eq_true hr8; have p6 := eq_true hr9; have p7 := eq_false hr10; simp only [der1, p1, p2, p3, p4, p5, p6, p7, if_true, if_false, decide_true, decide_false, Bool.and_true, Bool.and_false, Bool.true_and, Bool.false_and, Bool.or_true, Bool.or_false, Bool.true_or, Bool.false_or, Bool.not_true, Bool.not_false, ne_eq, not_true_eq_false, not_false_eq_true, true_and, and_true, false_and, and_false, true_or, or_true, false_or, or_false, ite_true, ite_false, Bool.false_eq_true])⟩ (by dsimp only; omega) ⟨rfl, rfl, rfl, rfl, rfl, rfl, rfl, trivial⟩ (pf_takeB (pf_cons pf_here) (pf_takeB (pf_cons pf_here) (pf_cons pf_here))) (fun v _ h => by exact ⟨h.1, trivial⟩)
       ·
        replace hr10 := of_decide_eq_true hr10
        refine run_cond_t rfl (run_seq (run_region (ops_val (yld_assign rfl) rfl (ops_nil (fin_next rfl (run_ret ?_))))))
        exact ret1 Tryz.results46 () (get_bool rfl (any_here hmx2 (by have p1 := eq_true hr1; have p2 := eq_true hr5; have p3 := eq_false hr6; have p4 := eq_false hr7; have p5 := eq_true hr8; have p6 := eq_true hr9; have p7 := eq_true hr10; simp only [der1, p1, p2, p3, p4, p5, p6, p7, if_true, if_false, decide_true, decide_false, Bool.and_true, Bool.and_false, Bool.true_and, Bool.false_and, Bool.or_true, Bool.or_false, Bool.true_or, Bool.false_or, Bool.not_true, Bool.not_false, ne_eq, not_true_eq_false, not_false_eq_true, true_and, and_true, false_and, and_false, true_or, or_true, false_or, or_false, ite_true, ite_false, Bool.false_eq_true]))) pf_nil (fun _ _ _ => trivial)
    ·
     replace hr7 := of_decide_eq_true hr7
     refine run_cond_t rfl (run_seq (run_region (ops_val (yld_assign rfl) rfl (ops_nil (fin_next rfl (run_ret ?_))))))
     exact ret1 Tryz.results46 () (get_bool rfl (any_here hmx2 (by have p1 := eq_true hr1; have p2 := eq_true hr5; have p3 := eq_false hr6; have p4 := eq_true hr7; simp only [der1, p1, p2, p3, p4, if_true, if_false, decide_true, decide_false, Bool.and_true, Bool.and_false, Bool.true_and, Bool.false_and, Bool.or_true, Bool.or_false, Bool.true_or, Bool.false_or, Bool.not_true, Bool.not_false, ne_eq, not_true_eq_false, not_false_eq_true, true_and, and_true, false_and, and_false, true_or, or_true, false_or, or_false, ite_true, ite_false, Bool.false_eq_true]))) pf_nil (fun _ _ _ => trivial)
   ·
    replace hr6 := of_decide_eq_true hr6
    refine ops_no rfl rfl rfl rfl (ops_no rfl rfl rfl rfl (ops_no rfl rfl rfl rfl (ops_val (yld_pick_t rfl rfl) rfl ?_)))
    refine ops_nil (fin_next rfl (run_cond_t rfl (run_seq (run_region (ops_val (yld_assign rfl) rfl (ops_nil (fin_next rfl ?_)))))))
    refine run_ret ?_
    exact ret1 Tryz.results46 () (get_bool rfl (any_here hmx2 (by have p1 := eq_true hr1; have p2 := eq_true hr5; have p3 := eq_true hr6; simp only [der1, p1, p2, p3, if_true, if_false, decide_true, decide_false, Bool.and_true, Bool.and_false, Bool.true_and, Bool.false_and, Bool.or_true, Bool.or_false, Bool.true_or, Bool.false_or, Bool.not_true, Bool.not_false, ne_eq, not_true_eq_false, not_false_eq_true, true_and, and_true, false_and, and_false, true_or, or_true, false_or, or_false, ite_true, ite_false, Bool.false_eq_true]))) pf_nil (fun _ _ _ => trivial)
end Go.Proofs.YtpdbbglpbngeiaaGreatDoor
namespace Go.Proofs.YtpdbbglpbngeiaaGreatDoor
open Go Go.Sx Go.Proofs
set_option linter.unusedVariables false
attribute [local irreducible] Code.wp wpList wpAnyH
open Go.Vs
theorem place_lt : ∀ {l : List Fc} {f : Fc} {m : Nat} {x : Fc}, Srt l → l[m]? = some x → (x.lt f ↔ m < placeF l f)
  | [], _, _, _, _, h => by simp at h
  | y :: l, f, 0, x, hs, h => by
    simp only [List.getElem?_cons_zero, Option.some.injEq] at h
    subst h
    unfold placeF
    rw [List.countP_cons]
    constructor
    · intro q; rw [if_pos (decide_eq_true q)]; omega
    · intro q
      apply Decidable.byContradiction
      intro hn
      rw [if_neg (by simpa using hn)] at q
      obtain ⟨z, hz, hz2⟩ := List.countP_pos_iff.1 (Nat.lt_of_lt_of_eq q (Nat.add_zero _))
      exact hn (Fc.lt_trans ((List.pairwise_cons.1 hs).1 z hz) (of_decide_eq_true hz2))
  | y :: l, f, m + 1, x, hs, h => by
    simp only [List.getElem?_cons_succ] at h
    have hs' := List.pairwise_cons.1 hs
    have ih := place_lt hs'.2 h (f := f)
    unfold placeF at *
    rw [List.countP_cons, ih]
    constructor
    · intro q
      have hx : x.lt f := ih.2 q
      rw [if_pos (decide_eq_true (Fc.lt_trans (hs'.1 x (List.mem_of_getElem? h)) hx))]; omega
    · intro q
      split at q <;> omega
theorem mid2 (lo hi : Nat) : Int.tdiv ((lo : Int) + (hi : Int)) 2 = (((lo + hi) / 2 : Nat) : Int) := by
  rw [Int.tdiv_eq_ediv_of_nonneg (by omega)]; omega
theorem less_c (x y : Fc) : Fn0 Tryz.prog 75 #[Fc.val x, Fc.val y] (.bool (decide (x.lt y))) := by
 refine tri_of_body Tryz.func75 rfl rfl Tryz.ntmps75 rfl fun v0 => ?_
 refine run_seq (run_region (ops_box rfl rfl fun b1 => ?_))
 refine ops_box rfl rfl fun b2 => ?_
 refine ops_val (yld_assign rfl) rfl (ops_nil (fin_next rfl (run_seq (run_block (run_seq (run_region (ops_val (yld_field Tryz.runUnderlying41 rfl rfl rfl Tryz.sizeOf3) rfl ?_)))))))
 refine ops_val (yld_load 1 Tryz.isAgg3 rfl rfl rfl) rfl ?_
 refine ops_val (yld_field Tryz.runUnderlying41 rfl rfl rfl Tryz.sizeOf3) rfl ?_
 refine ops_val (yld_load 0 Tryz.isAgg3 rfl rfl rfl) rfl ?_
 refine ops_valB (yld_neq rfl rfl) rfl fun r1 hr1 => ?_
 refine ops_val (yld_assign rfl) rfl (ops_nil (fin_next rfl ?_))
 cases r1
 ·
  replace hr1 := eq_of_bne hr1
  refine run_cond_f rfl (run_seq (run_region (ops_val (yld_field Tryz.runUnderlying41 rfl rfl rfl Tryz.sizeOf9) rfl ?_)))
  refine ops_val (yld_load 1 Tryz.isAgg9 rfl rfl rfl) rfl ?_
  refine ops_val (yld_field Tryz.runUnderlying41 rfl rfl rfl Tryz.sizeOf9) rfl ?_
  refine ops_val (yld_load 0 Tryz.isAgg9 rfl rfl rfl) rfl ?_
  refine ops_valB (yld_sneq rfl rfl) rfl fun r2 hr2 => ?_
  refine ops_val (yld_assign rfl) rfl (ops_nil (fin_next rfl ?_))
  cases r2
  ·
   replace hr2 := eq_of_bne hr2
   refine run_cond_f rfl (run_seq (run_region (ops_val (yld_field Tryz.runUnderlying41 rfl rfl rfl Tryz.sizeOf9) rfl ?_)))
   refine ops_val (yld_load 1 Tryz.isAgg9 rfl rfl rfl) rfl ?_
   refine ops_val (yld_field Tryz.runUnderlying41 rfl rfl rfl Tryz.sizeOf9) rfl ?_
   refine ops_val (yld_load 0 Tryz.isAgg9 rfl rfl rfl) rfl ?_
   refine ops_valB (yld_sneq rfl rfl) rfl fun r3 hr3 => ?_
   refine ops_val (yld_assign rfl) rfl (ops_nil (fin_next rfl ?_))
   cases r3
   ·
    replace hr3 := eq_of_bne hr3
    refine run_cond_f rfl (run_seq (run_region (ops_val (yld_field Tryz.runUnderlying41 rfl rfl rfl Tryz.sizeOf9) rfl ?_)))
    refine ops_val (yld_load 1 Tryz.isAgg9 rfl rfl rfl) rfl ?_
    refine ops_val (yld_field Tryz.runUnderlying41 rfl rfl rfl Tryz.sizeOf9) rfl ?_
    refine ops_val (yld_load 0 Tryz.isAgg9 rfl rfl rfl) rfl ?_
    refine ops_valB (yld_sneq rfl rfl) rfl fun r4 hr4 => ?_
    refine ops_val (yld_assign rfl) rfl (ops_nil (fin_next rfl ?_))
    cases r4
    ·
     replace hr4 := eq_of_bne hr4
     refine run_cond_f rfl (run_seq (run_region (ops_val (yld_field Tryz.runUnderlying41 rfl rfl rfl Tryz.sizeOf3) rfl ?_)))
     refine ops_val (yld_load 1 Tryz.isAgg3 rfl rfl rfl) rfl ?_
     refine ops_val (yld_field Tryz.runUnderlying41 rfl rfl rfl Tryz.sizeOf3) rfl ?_
     refine ops_val (yld_load 0 Tryz.isAgg3 rfl rfl rfl) rfl ?_
     refine ops_valB (yld_neq rfl rfl) rfl fun r5 hr5 => ?_
     refine ops_val (yld_assign rfl) rfl (ops_nil (fin_next rfl ?_))
     cases r5
     ·
      replace hr5 := eq_of_bne hr5
      refine run_cond_f rfl (run_skip (fin_next rfl (run_seq (run_region (ops_val (yld_field Tryz.runUnderlying41 rfl rfl rfl Tryz.sizeOf3) rfl ?_)))))
      refine ops_val (yld_load 1 Tryz.isAgg3 rfl rfl rfl) rfl ?_
      refine ops_val (yld_field Tryz.runUnderlying41 rfl rfl rfl Tryz.sizeOf3) rfl ?_
      refine ops_val (yld_load 0 Tryz.isAgg3 rfl rfl rfl) rfl ?_
      refine ops_valB (yld_lss rfl rfl) rfl fun r6 hr6 => ?_
      refine ops_val (yld_assign rfl) rfl (ops_nil (fin_next rfl (run_ret ?_)))
      exact ret1 Tryz.results75 () (get_bool rfl (by rw [← hr6, decide_eq_decide]; unfold Fc.lt; simp_all [str_irr])) pf_nil (fun _ _ _ => trivial)
     ·
      replace hr5 := ne_of_bne hr5
      refine run_cond_t rfl (run_seq (run_region (ops_val (yld_field Tryz.runUnderlying41 rfl rfl rfl Tryz.sizeOf3) rfl ?_)))
      refine ops_val (yld_load 1 Tryz.isAgg3 rfl rfl rfl) rfl ?_
      refine ops_val (yld_field Tryz.runUnderlying41 rfl rfl rfl Tryz.sizeOf3) rfl ?_
      refine ops_val (yld_load 0 Tryz.isAgg3 rfl rfl rfl) rfl ?_
      refine ops_valB (yld_lss rfl rfl) rfl fun r7 hr7 => ?_
      refine ops_val (yld_assign rfl) rfl (ops_nil (fin_next rfl (run_ret ?_)))
      exact ret1 Tryz.results75 () (get_bool rfl (by rw [← hr7, decide_eq_decide]; unfold Fc.lt; simp_all [str_irr])) pf_nil (fun _ _ _ => trivial)
    ·
     replace hr4 := ne_of_bne hr4
     refine run_cond_t rfl (run_seq (run_region (ops_val (yld_field Tryz.runUnderlying41 rfl rfl rfl Tryz.sizeOf9) rfl ?_)))
     refine ops_val (yld_load 1 Tryz.isAgg9 rfl rfl rfl) rfl ?_
     refine ops_val (yld_field Tryz.runUnderlying41 rfl rfl rfl Tryz.sizeOf9) rfl ?_
     refine ops_val (yld_load 0 Tryz.isAgg9 rfl rfl rfl) rfl ?_
     refine ops_valB (yld_slss rfl rfl) rfl fun r8 hr8 => ?_
     refine ops_val (yld_assign rfl) rfl (ops_nil (fin_next rfl (run_ret ?_)))
     exact ret1 Tryz.results75 () (get_bool rfl (by rw [← hr8, decide_eq_decide]; unfold Fc.lt; simp_all [str_irr])) pf_nil (fun _ _ _ => trivial)
   ·
    replace hr3 := ne_of_bne hr3
    refine run_cond_t rfl (run_seq (run_region (ops_val (yld_field Tryz.runUnderlying41 rfl rfl rfl Tryz.sizeOf9) rfl ?_)))
    refine ops_val (yld_load 1 Tryz.isAgg9 rfl rfl rfl) rfl ?_
    refine ops_val (yld_field Tryz.runUnderlying41 rfl rfl rfl Tryz.sizeOf9) rfl ?_
    refine ops_val (yld_load 0 Tryz.isAgg9 rfl rfl rfl) rfl ?_
    refine ops_valB (yld_slss rfl rfl) rfl fun r9 hr9 => ?_
    refine ops_val (yld_assign rfl) rfl (ops_nil (fin_next rfl (run_ret ?_)))
    exact ret1 Tryz.results75 () (get_bool rfl (by rw [← hr9, decide_eq_decide]; unfold Fc.lt; simp_all [str_irr])) pf_nil (fun _ _ _ => trivial)
  ·
   replace hr2 := ne_of_bne hr2
   refine run_cond_t rfl (run_seq (run_region (ops_val (yld_field Tryz.runUnderlying41 rfl rfl rfl Tryz.sizeOf9) rfl ?_)))
   refine ops_val (yld_load 1 Tryz.isAgg9 rfl rfl rfl) rfl ?_
   refine ops_val (yld_field Tryz.runUnderlying41 rfl rfl rfl Tryz.sizeOf9) rfl ?_
   refine ops_val (yld_load 0 Tryz.isAgg9 rfl rfl rfl) rfl ?_
   refine ops_valB (yld_slss rfl rfl) rfl fun r10 hr10 => ?_
   refine ops_val (yld_assign rfl) rfl (ops_nil (fin_next rfl (run_ret ?_)))
   exact ret1 Tryz.results75 () (get_bool rfl (by rw [← hr10, decide_eq_decide]; unfold Fc.lt; simp_all [str_irr])) pf_nil (fun _ _ _ => trivial)
 ·
  replace hr1 := ne_of_bne hr1
  refine run_cond_t rfl (run_seq (run_region (ops_val (yld_field Tryz.runUnderlying41 rfl rfl rfl Tryz.sizeOf3) rfl ?_)))
  refine ops_val (yld_load 1 Tryz.isAgg3 rfl rfl rfl) rfl ?_
  refine ops_val (yld_field Tryz.runUnderlying41 rfl rfl rfl Tryz.sizeOf3) rfl ?_
  refine ops_val (yld_load 0 Tryz.isAgg3 rfl rfl rfl) rfl ?_
  refine ops_valB (yld_lss rfl rfl) rfl fun r11 hr11 => ?_
  refine ops_val (yld_assign rfl) rfl (ops_nil (fin_next rfl (run_ret ?_)))
  exact ret1 Tryz.results75 () (get_bool rfl (by rw [← hr11, decide_eq_decide]; unfold Fc.lt; simp_all [str_irr])) pf_nil (fun _ _ _ => trivial)
theorem place_c (l : List Fc) (ad : Option Addr) (cap : Nat) (f : Fc) (hl : l.length ≤ 1000000000000) (hs : Srt l) : Tri Tryz.prog 76 #[.slice ad (List.length l) cap, Fc.val f] [] [rowF ad (List.flatMap Fc.cells l)] (fun _ : Unit => .int .i64 (placeF l f : Int)) (fun _ => []) (fun _ => []) := by
 refine tri_of_body Tryz.func76 rfl rfl Tryz.ntmps76 rfl fun v0 => ?_
 refine run_seq (run_region (ops_box rfl rfl fun b1 => ?_))
 refine ops_val (yld_assign rfl) rfl (ops_nil (fin_next rfl (run_seq (run_region (ops_val (yld_assign rfl) rfl (ops_nil (fin_next rfl ?_)))))))
 refine run_seq (run_region (ops_val (yld_move rfl) rfl (ops_val (yld_lenS Tryz.runUnderlying26 rfl) rfl ?_)))
 refine ops_val (yld_assign rfl) rfl (ops_nil (fin_next rfl (run_seq (run_block (ok_fr [(0, .slice ad (List.length l) cap), (3, .pointer (some ⟨b1, 0, none⟩)), (5, .int .i64 ((0 : Nat) : Int)), (6, .int .i64 ((List.length l) : Int))] ⟨rfl, rfl, rfl, rfl, trivial⟩ ?_)))))
 refine run_loop (ι := {y : Nat × Nat // y.1 ≤ y.2 ∧ y.1 ≤ placeF l f ∧ placeF l f ≤ y.2 ∧ y.2 ≤ List.length l}) (fun y => [(0, .slice ad (List.length l) cap), (3, .pointer (some ⟨b1, 0, none⟩)), (5, .int .i64 (y.1.1 : Int)), (6, .int .i64 (y.1.2 : Int))]) (fun y => ((b1, .cells #[.int .i64 (Fc.kind f), str (Fc.a f), str (Fc.b f), str (Fc.r f), .int .i64 (Fc.lo f), .int .i64 (Fc.hi f)] 41 (0, 0)) :: [])) (fun y => [rowF ad (List.flatMap Fc.cells l)]) (fun y => y.1.2 - y.1.1) ⟨((0 : Nat), (List.length l)), Nat.zero_le _, Nat.zero_le _, placeF_le l f, Nat.le_refl _⟩ ?_
 rintro ⟨⟨lo, hi⟩, hlh, hp1, hp2, hp3⟩
 dsimp only at hlh hp1 hp2 hp3 ⊢
 refine ok_fr [(0, .slice ad (List.length l) cap), (3, .pointer (some ⟨b1, 0, none⟩)), (5, .int .i64 (lo : Int)), (6, .int .i64 (hi : Int))] ⟨rfl, rfl, rfl, rfl, trivial⟩ ?_
 refine run_seq (run_seq (run_region (ops_val (yld_move rfl) rfl (ops_val (yld_move rfl) rfl (ops_valB (yld_lss rfl rfl) rfl fun r1 hr1 => ?_)))))
 refine ops_nil (fin_next rfl ?_)
 cases r1
 ·
  replace hr1 := of_decide_eq_false hr1
  refine run_cond_f rfl (run_exit rfl (fin_next rfl (run_seq (run_region (ops_val (yld_move rfl) rfl (ops_val (yld_assign rfl) rfl (ops_nil ?_)))))))
  refine fin_next rfl (run_ret ?_)
  exact ret1 Tryz.results76 () (get_int rfl (by omega)) pf_nil (fun _ _ _ => trivial)
 ·
  replace hr1 := of_decide_eq_true hr1
  have hlx1 : ((lo + hi) / 2 : Nat) < List.length l := by omega
  obtain ⟨x1, hx1⟩ : ∃ e0, l[((lo + hi) / 2 : Nat)]? = some e0 := ⟨_, List.getElem?_eq_getElem hlx1⟩
  have hmx1 : x1 ∈ l := List.mem_of_getElem? hx1
  refine run_cond_t rfl (run_skip (fin_next rfl (run_block (run_seq (run_region (ops_val (yld_move rfl) rfl (ops_val (yld_move rfl) rfl ?_)))))))
  refine ops_val (yld_arith rfl rfl rfl (wrap64 (by omega) (by omega))) rfl ?_
  refine ops_val (yld_eq (yld_quo rfl rfl (by decide) (by rw [mid2]; exact wrap64 (by omega) (by omega))) (show Value.int .i64 (Int.tdiv ((lo : Int) + (hi : Int)) 2) = Value.int .i64 (((lo + hi) / 2 : Nat) : Int) from congrArg _ (mid2 lo hi))) rfl ?_
  refine ops_val (yld_assign rfl) rfl (ops_nil (fin_next rfl (run_seq ?_)))
  refine run_draw' (by kernel_rfl) ?_
  refine any_sq 1 [0, 1, 2, 3, 4] (by kernel_rfl) (fun _ a b => ⟨a, b⟩) ?_
  refine sq_val rfl (yld_move rfl) rfl ?_
  refine sq_val rfl (yld_move rfl) rfl ?_
  refine sq_val rfl (yld_indexR Tryz.runUnderlying26 Tryz.sizeOf41 rfl rfl (fun v _ h => row_adr (n := 6) Fc.cells_len (by decide) (by exact h.1) hx1) (by omega) (by first | omega | (simp; done))) rfl ?_
  refine sq_val rfl (yld_loadRS (ad := ad) (us := Fc.cells x1) Tryz.isAgg41 Tryz.sizeOf41 rfl (fun v _ h => by exact h.1) (Fc.cells_len _) (row_cells Fc.cells_len hx1)) rfl ?_
  refine sq_val rfl (yld_loadS 0 Tryz.isAgg41 Tryz.sizeOf41 rfl rfl rfl) rfl ?_
  refine sq_nil ?_
  refine any_one 5 rfl (by kernel_rfl) ?_
  refine ops_callB (less_c x1 f) rfl pf_nil (fun _ _ _ => by exact trivial) rfl fun r2 hr2 => ?_
  refine ops_nil (fin_inv rfl (any_next (fun _ a b => ⟨a, b⟩) ?_))
  refine any_done (by kernel_rfl) ?_
  refine fin_next rfl ?_
  cases r2
  ·
   replace hr2 := of_decide_eq_false hr2
   refine run_cond_f rfl (run_region (ops_val (yld_move rfl) rfl (ops_val (yld_assign rfl) rfl (ops_nil (fin_inv rfl ?_)))))
   exact ok_again ⟨(lo, ((lo + hi) / 2 : Nat)), by omega, hp1, by have := (not_congr (place_lt hs hx1 (f := f))).1 hr2; omega, by omega⟩ (by dsimp only; omega) ⟨rfl, rfl, rfl, rfl, trivial⟩ pf_here (fun v _ h => by exact ⟨h.1, trivial⟩)
  ·
   replace hr2 := of_decide_eq_true hr2
   refine run_cond_t rfl (run_region (ops_val (yld_move rfl) rfl (ops_val (yld_arith rfl rfl rfl (wrap64 (by omega) (by omega))) rfl ?_)))
   refine ops_val (yld_assign rfl) rfl (ops_nil (fin_inv rfl ?_))
   exact ok_again ⟨(((lo + hi) / 2 : Nat) + 1, hi), by omega, by have := (place_lt hs hx1 (f := f)).1 hr2; omega, hp2, hp3⟩ (by dsimp only; omega) ⟨rfl, rfl, rfl, rfl, trivial⟩ pf_here (fun v _ h => by exact ⟨h.1, trivial⟩)
theorem has_c (l : List Fc) (ad : Option Addr) (cap : Nat) (f : Fc) (hl : l.length ≤ 1000000000000) (hs : Srt l) : Tri Tryz.prog 28 #[.slice ad (List.length l) cap, Fc.val f] [] [rowF ad (List.flatMap Fc.cells l)] (fun _ : Unit => .bool (decide (f ∈ l))) (fun _ => []) (fun _ => []) := by
 refine tri_of_body Tryz.func28 rfl rfl Tryz.ntmps28 rfl fun v0 => ?_
 refine run_seq (run_region (ops_box rfl rfl fun b1 => ?_))
 refine ops_val (yld_assign rfl) rfl (ops_nil (fin_next rfl (run_seq (run_region (ops_val (yld_move rfl) rfl (ops_val (yld_loadS 0 Tryz.isAgg41 Tryz.sizeOf41 rfl rfl rfl) rfl ?_))))))
 refine ops_call (place_c l ad cap f (by omega) hs) rfl pf_nil (fun v _ h => by exact ⟨h.1, trivial⟩) rfl fun _ => ?_
 refine ops_val (yld_assign rfl) rfl (ops_nil (fin_next rfl (run_seq ?_)))
 refine run_draw' (by kernel_rfl) ?_
 refine any_sq 8 [0, 1, 2, 3, 4] (by kernel_rfl) (fun _ a b => ⟨a, b⟩) ?_
 refine sq_val rfl (yld_move rfl) rfl ?_
 refine sq_val rfl (yld_move rfl) rfl ?_
 refine sq_val rfl (yld_lenS Tryz.runUnderlying26 rfl) rfl ?_
 refine sq_valB rfl (yld_lss rfl rfl) rfl fun r1 hr1 => ?_
 refine sq_val rfl (yld_move rfl) rfl ?_
 refine sq_nil ?_
 cases r1
 ·
  replace hr1 := of_decide_eq_false hr1
  refine any_sq 0 [5, 6, 7, 8, 9, 10, 11, 12] (by kernel_rfl) (fun _ a b => ⟨a, b⟩) ?_
  refine sq_no rfl rfl rfl rfl rfl ?_
  refine sq_no rfl rfl rfl rfl rfl ?_
  refine sq_no rfl rfl rfl rfl rfl ?_
  refine sq_no rfl rfl rfl rfl rfl ?_
  refine sq_no rfl rfl rfl rfl rfl ?_
  refine sq_no rfl rfl rfl rfl rfl ?_
  refine sq_val rfl (yld_pick_f rfl rfl) rfl ?_
  refine sq_val rfl (yld_assign rfl) rfl ?_
  refine sq_nil ?_
  refine any_done (by kernel_rfl) ?_
  refine fin_next rfl (run_ret ?_)
  exact ret1 Tryz.results28 () (get_bool rfl (by symm; apply decide_eq_false; intro q; have := (List.getElem?_eq_some_iff.1 ((has_place hs f).1 q)).1; omega)) pf_nil (fun _ _ _ => trivial)
 ·
  replace hr1 := of_decide_eq_true hr1
  have hlx1 : placeF l f < List.length l := by omega
  obtain ⟨x1, hx1⟩ : ∃ e0, l[placeF l f]? = some e0 := ⟨_, List.getElem?_eq_getElem hlx1⟩
  have hmx1 : x1 ∈ l := List.mem_of_getElem? hx1
  refine any_sq 0 [5, 6, 7, 8, 9, 10, 11, 12] (by kernel_rfl) (fun _ a b => ⟨a, b⟩) ?_
  refine sq_valY rfl rfl rfl (yld_move rfl) rfl ?_
  refine sq_valY rfl rfl rfl (yld_move rfl) rfl ?_
  refine sq_valY rfl rfl rfl (yld_indexR Tryz.runUnderlying26 Tryz.sizeOf41 rfl rfl (fun v _ h => row_adr (n := 6) Fc.cells_len (by decide) (by exact h.1) hx1) (by omega) (by first | omega | (simp; done))) rfl ?_
  refine sq_valY rfl rfl rfl (yld_loadRS (ad := ad) (us := Fc.cells x1) Tryz.isAgg41 Tryz.sizeOf41 rfl (fun v _ h => by exact h.1) (Fc.cells_len _) (row_cells Fc.cells_len hx1)) rfl ?_
  refine sq_valY rfl rfl rfl (yld_loadS 0 Tryz.isAgg41 Tryz.sizeOf41 rfl rfl rfl) rfl ?_
  refine sq_valYB rfl rfl rfl (yld_eqlFc (p := x1) (q := f) rfl rfl) rfl fun r2 hr2 => ?_
  refine sq_val rfl (yld_pick_t rfl rfl) rfl ?_
  refine sq_val rfl (yld_assign rfl) rfl ?_
  refine sq_nil ?_
  refine any_done (by kernel_rfl) ?_
  refine fin_next rfl (run_ret ?_)
  exact ret1 Tryz.results28 () (get_bool rfl (by rw [← hr2, decide_eq_decide, has_place hs f, hx1, Option.some.injEq])) pf_nil (fun _ _ _ => trivial)
end Go.Proofs.YtpdbbglpbngeiaaGreatDoor
namespace Go.Proofs.YtpdbbglpbngeiaaGreatDoor
open Go Go.Sx Go.Proofs
set_option linter.unusedVariables false
attribute [local irreducible] Code.wp wpList wpAnyH
open Go.Vs
theorem rsub_c (a b : Str) : Fn0 Tryz.prog 47 #[str a, str b] (Fc.val (fsub a b)) := by
  refine tri_of_body Tryz.func47 rfl rfl Tryz.ntmps47 rfl fun v0 => ?_
  refine run_seq (run_region (ops_alloc Tryz.zeroValue41 rfl fun b1 => ?_))
  refine ops_nil (fin_next rfl (run_seq (run_region (ops_val (yld_move rfl) rfl (ops_val (yld_move rfl) rfl (ops_val (yld_struct strt41 rfl rfl) rfl ?_))))))
  refine ops_store 0 Tryz.sizeOf41 rfl rfl rfl rfl rfl rfl ?_
  refine ops_nil (fin_next rfl (run_ret ?_))
  exact retR () (fun aa v h1 h2 => res_cellS (us := Fc.cells (fsub a b)) 0 Tryz.results47 Tryz.isAgg41 Tryz.sizeOf41 rfl rfl rfl aa v h1 h2) pf_nil (fun _ _ _ => trivial)
theorem rlink_c (a r b : Str) : Fn0 Tryz.prog 51 #[str a, str r, str b] (Fc.val (flink a r b)) := by
  refine tri_of_body Tryz.func51 rfl rfl Tryz.ntmps51 rfl fun v0 => ?_
  refine run_seq (run_region (ops_alloc Tryz.zeroValue41 rfl fun b1 => ?_))
  refine ops_nil (fin_next rfl (run_seq (run_region (ops_val (yld_move rfl) rfl (ops_val (yld_move rfl) rfl (ops_val (yld_move rfl) rfl (ops_val (yld_struct strt41 rfl rfl) rfl ?_)))))))
  refine ops_store 0 Tryz.sizeOf41 rfl rfl rfl rfl rfl rfl ?_
  refine ops_nil (fin_next rfl (run_ret ?_))
  exact retR () (fun aa v h1 h2 => res_cellS (us := Fc.cells (flink a r b)) 0 Tryz.results51 Tryz.isAgg41 Tryz.sizeOf41 rfl rfl rfl aa v h1 h2) pf_nil (fun _ _ _ => trivial)
theorem sameS_c (l m : List Str) (ad ae : Option Addr) (cap cpe : Nat) (hl : l.length ≤ 1000000000000) (hm : m.length ≤ 1000000000000) : Tri Tryz.prog 66 #[.slice ad (List.length l) cap, .slice ae (List.length m) cpe] [] [rowF ad (List.flatMap strC l), rowF ae (List.flatMap strC m)] (fun _ : Unit => .bool (decide (l = m))) (fun _ => []) (fun _ => []) := by
 refine tri_of_body Tryz.func66 rfl rfl Tryz.ntmps66 rfl fun v0 => ?_
 refine run_seq (run_region (ops_val (yld_assign rfl) rfl (ops_nil (fin_next rfl (run_seq (run_seq (run_region ?_)))))))
 refine ops_val (yld_move rfl) rfl (ops_val (yld_lenS Tryz.runUnderlying25 rfl) rfl ?_)
 refine ops_val (yld_move rfl) rfl (ops_val (yld_lenS Tryz.runUnderlying25 rfl) rfl ?_)
 refine ops_valB (yld_neq rfl rfl) rfl fun r1 hr1 => ?_
 refine ops_nil (fin_next rfl ?_)
 cases r1
 ·
  replace hr1 := eq_of_bne hr1
  refine run_cond_f rfl (run_skip (fin_next rfl (run_seq (run_seq (run_region (ops_val (yld_assign rfl) rfl (ops_nil ?_)))))))
  refine fin_next rfl (run_block (ok_fr [(0, .slice ad (List.length l) cap), (1, .slice ae (List.length m) cpe), (5, .int .i64 ((0 : Nat) : Int))] ⟨rfl, rfl, rfl, trivial⟩ ?_))
  refine run_loop (ι := {y : Nat // y ≤ l.length ∧ l.take y = m.take y}) (fun y => [(0, .slice ad (List.length l) cap), (1, .slice ae (List.length m) cpe), (5, .int .i64 (y.1 : Int))]) (fun y => ([])) (fun y => [rowF ad (List.flatMap strC l), rowF ae (List.flatMap strC m)]) (fun y => l.length - y.1) ⟨(0 : Nat), by simp, by simp⟩ ?_
  rintro ⟨i, hi, he⟩
  dsimp only at hi he ⊢
  refine ok_fr [(0, .slice ad (List.length l) cap), (1, .slice ae (List.length m) cpe), (5, .int .i64 (i : Int))] ⟨rfl, rfl, rfl, trivial⟩ ?_
  have hlm : l.length = m.length := by omega
  refine run_seq (run_seq (run_region (ops_val (yld_move rfl) rfl (ops_val (yld_move rfl) rfl (ops_val (yld_lenS Tryz.runUnderlying25 rfl) rfl ?_)))))
  refine ops_valB (yld_lss rfl rfl) rfl fun r2 hr2 => ?_
  refine ops_nil (fin_next rfl ?_)
  cases r2
  ·
   replace hr2 := of_decide_eq_false hr2
   refine run_cond_f rfl (run_exit rfl (fin_next rfl (run_seq (run_region (ops_val (yld_assign rfl) rfl (ops_nil (fin_next rfl ?_)))))))
   refine run_ret ?_
   exact ret1 Tryz.results66 () (get_bool rfl (by symm; apply decide_eq_true; rwa [List.take_of_length_le (by omega), List.take_of_length_le (by omega)] at he)) pf_nil (fun _ _ _ => trivial)
  ·
   replace hr2 := of_decide_eq_true hr2
   have hlx1 : i < List.length l := by omega
   obtain ⟨x1, hx1⟩ : ∃ e0, l[i]? = some e0 := ⟨_, List.getElem?_eq_getElem hlx1⟩
   have hmx1 : x1 ∈ l := List.mem_of_getElem? hx1
   have hlx2 : i < List.length m := by omega
   obtain ⟨x2, hx2⟩ : ∃ e0, m[i]? = some e0 := ⟨_, List.getElem?_eq_getElem hlx2⟩
   have hmx2 : x2 ∈ m := List.mem_of_getElem? hx2
   refine run_cond_t rfl (run_skip (fin_next rfl (run_seq (run_block (run_seq ?_)))))
   refine run_draw' (by kernel_rfl) ?_
   refine any_sq 0 [0, 1, 2, 3, 4, 5, 6, 7, 8] (by kernel_rfl) (fun _ a b => ⟨satNil a, b⟩) ?_
   refine sq_val rfl (yld_move rfl) rfl ?_
   refine sq_val rfl (yld_move rfl) rfl ?_
   refine sq_val rfl (yld_indexR Tryz.runUnderlying25 Tryz.sizeOf9 rfl rfl (fun v _ h => row_adr (n := 1) strC_len (by decide) (by exact h.1) hx1) (by omega) (by first | omega | (simp; done))) rfl ?_
   refine sq_val rfl (yld_loadR (ad := ad) Tryz.isAgg9 rfl (fun v _ h => by exact h.1) (row_cells strC_len hx1 0 _ rfl)) rfl ?_
   refine sq_val rfl (yld_move rfl) rfl ?_
   refine sq_val rfl (yld_move rfl) rfl ?_
   refine sq_val rfl (yld_indexR Tryz.runUnderlying25 Tryz.sizeOf9 rfl rfl (fun v _ h => row_adr (n := 1) strC_len (by decide) (by exact h.2.1) hx2) (by omega) (by first | omega | (simp; done))) rfl ?_
   refine sq_val rfl (yld_loadR (ad := ae) Tryz.isAgg9 rfl (fun v _ h => by exact h.2.1) (row_cells strC_len hx2 0 _ rfl)) rfl ?_
   refine sq_valB rfl (yld_sneq rfl rfl) rfl fun r3 hr3 => ?_
   refine sq_nil ?_
   refine any_done (by kernel_rfl) ?_
   refine fin_next rfl ?_
   cases r3
   ·
    replace hr3 := eq_of_bne hr3
    refine run_cond_f rfl (run_skip (fin_next rfl (run_region (ops_val (yld_move rfl) rfl (ops_val (yld_arith rfl rfl rfl (wrap64 (by omega) (by omega))) rfl ?_)))))
    refine ops_val (yld_assign rfl) rfl (ops_nil (fin_inv rfl ?_))
    exact ok_again ⟨i + 1, hlx1, by rw [List.take_add_one, hx1, List.take_add_one, hx2, he]; simp_all⟩ (by dsimp only; omega) ⟨rfl, rfl, rfl, trivial⟩ pf_nil (fun v _ h => by exact ⟨h.1, h.2.1, trivial⟩)
   ·
    replace hr3 := ne_of_bne hr3
    refine run_cond_t rfl (run_seq (run_region (ops_val (yld_assign rfl) rfl (ops_nil (fin_next rfl (run_ret ?_))))))
    exact ret1 Tryz.results66 () (get_bool rfl (by symm; apply decide_eq_false; intro e; subst e; rw [hx1] at hx2; simp_all)) pf_nil (fun _ _ _ => trivial)
 ·
  replace hr1 := ne_of_bne hr1
  refine run_cond_t rfl (run_seq (run_region (ops_val (yld_assign rfl) rfl (ops_nil (fin_next rfl (run_ret ?_))))))
  exact ret1 Tryz.results66 () (get_bool rfl (by symm; apply decide_eq_false; intro e; subst e; omega)) pf_nil (fun _ _ _ => trivial)
theorem sameF_c (l m : List Fc) (ad ae : Option Addr) (cap cpe : Nat) (hl : l.length ≤ 1000000000000) (hm : m.length ≤ 1000000000000) : Tri Tryz.prog 24 #[.slice ad (List.length l) cap, .slice ae (List.length m) cpe] [] [rowF ad (List.flatMap Fc.cells l), rowF ae (List.flatMap Fc.cells m)] (fun _ : Unit => .bool (decide (l = m))) (fun _ => []) (fun _ => []) := by
 refine tri_of_body Tryz.func24 rfl rfl Tryz.ntmps24 rfl fun v0 => ?_
 refine run_seq (run_region (ops_val (yld_assign rfl) rfl (ops_nil (fin_next rfl (run_seq (run_seq (run_region ?_)))))))
 refine ops_val (yld_move rfl) rfl (ops_val (yld_lenS Tryz.runUnderlying26 rfl) rfl ?_)
 refine ops_val (yld_move rfl) rfl (ops_val (yld_lenS Tryz.runUnderlying26 rfl) rfl ?_)
 refine ops_valB (yld_neq rfl rfl) rfl fun r1 hr1 => ?_
 refine ops_nil (fin_next rfl ?_)
 cases r1
 ·
  replace hr1 := eq_of_bne hr1
  refine run_cond_f rfl (run_skip (fin_next rfl (run_seq (run_seq (run_region (ops_val (yld_assign rfl) rfl (ops_nil ?_)))))))
  refine fin_next rfl (run_block (ok_fr [(0, .slice ad (List.length l) cap), (1, .slice ae (List.length m) cpe), (5, .int .i64 ((0 : Nat) : Int))] ⟨rfl, rfl, rfl, trivial⟩ ?_))
  refine run_loop (ι := {y : Nat // y ≤ l.length ∧ l.take y = m.take y}) (fun y => [(0, .slice ad (List.length l) cap), (1, .slice ae (List.length m) cpe), (5, .int .i64 (y.1 : Int))]) (fun y => ([])) (fun y => [rowF ad (List.flatMap Fc.cells l), rowF ae (List.flatMap Fc.cells m)]) (fun y => l.length - y.1) ⟨(0 : Nat), by simp, by simp⟩ ?_
  rintro ⟨i, hi, he⟩
  dsimp only at hi he ⊢
  refine ok_fr [(0, .slice ad (List.length l) cap), (1, .slice ae (List.length m) cpe), (5, .int .i64 (i : Int))] ⟨rfl, rfl, rfl, trivial⟩ ?_
  have hlm : l.length = m.length := by omega
  refine run_seq (run_seq (run_region (ops_val (yld_move rfl) rfl (ops_val (yld_move rfl) rfl (ops_val (yld_lenS Tryz.runUnderlying26 rfl) rfl ?_)))))
  refine ops_valB (yld_lss rfl rfl) rfl fun r2 hr2 => ?_
  refine ops_nil (fin_next rfl ?_)
  cases r2
  ·
   replace hr2 := of_decide_eq_false hr2
   refine run_cond_f rfl (run_exit rfl (fin_next rfl (run_seq (run_region (ops_val (yld_assign rfl) rfl (ops_nil (fin_next rfl ?_)))))))
   refine run_ret ?_
   exact ret1 Tryz.results24 () (get_bool rfl (by symm; apply decide_eq_true; rwa [List.take_of_length_le (by omega), List.take_of_length_le (by omega)] at he)) pf_nil (fun _ _ _ => trivial)
  ·
   replace hr2 := of_decide_eq_true hr2
   have hlx1 : i < List.length l := by omega
   obtain ⟨x1, hx1⟩ : ∃ e0, l[i]? = some e0 := ⟨_, List.getElem?_eq_getElem hlx1⟩
   have hmx1 : x1 ∈ l := List.mem_of_getElem? hx1
   have hlx2 : i < List.length m := by omega
   obtain ⟨x2, hx2⟩ : ∃ e0, m[i]? = some e0 := ⟨_, List.getElem?_eq_getElem hlx2⟩
   have hmx2 : x2 ∈ m := List.mem_of_getElem? hx2
   refine run_cond_t rfl (run_skip (fin_next rfl (run_seq (run_block (run_seq ?_)))))
   refine run_draw' (by kernel_rfl) ?_
   refine any_sq 0 [0, 1, 2, 3, 4, 5, 6, 7, 8] (by kernel_rfl) (fun _ a b => ⟨satNil a, b⟩) ?_
   refine sq_val rfl (yld_move rfl) rfl ?_
   refine sq_val rfl (yld_move rfl) rfl ?_
   refine sq_val rfl (yld_indexR Tryz.runUnderlying26 Tryz.sizeOf41 rfl rfl (fun v _ h => row_adr (n := 6) Fc.cells_len (by decide) (by exact h.1) hx1) (by omega) (by first | omega | (simp; done))) rfl ?_
   refine sq_val rfl (yld_loadRS (ad := ad) (us := Fc.cells x1) Tryz.isAgg41 Tryz.sizeOf41 rfl (fun v _ h => by exact h.1) (Fc.cells_len _) (row_cells Fc.cells_len hx1)) rfl ?_
   refine sq_val rfl (yld_move rfl) rfl ?_
   refine sq_val rfl (yld_move rfl) rfl ?_
   refine sq_val rfl (yld_indexR Tryz.runUnderlying26 Tryz.sizeOf41 rfl rfl (fun v _ h => row_adr (n := 6) Fc.cells_len (by decide) (by exact h.2.1) hx2) (by omega) (by first | omega | (simp; done))) rfl ?_
   refine sq_val rfl (yld_loadRS (ad := ae) (us := Fc.cells x2) Tryz.isAgg41 Tryz.sizeOf41 rfl (fun v _ h => by exact h.2.1) (Fc.cells_len _) (row_cells Fc.cells_len hx2)) rfl ?_
   refine sq_valB rfl (yld_neqFc (p := x1) (q := x2) rfl rfl) rfl fun r3 hr3 => ?_
   refine sq_nil ?_
   refine any_done (by kernel_rfl) ?_
   refine fin_next rfl ?_
   cases r3
   ·
    replace hr3 := of_decide_eq_false hr3
    refine run_cond_f rfl (run_skip (fin_next rfl (run_region (ops_val (yld_move rfl) rfl (ops_val (yld_arith rfl rfl rfl (wrap64 (by omega) (by omega))) rfl ?_)))))
    refine ops_val (yld_assign rfl) rfl (ops_nil (fin_inv rfl ?_))
    exact ok_again ⟨i + 1, hlx1, by rw [List.take_add_one, hx1, List.take_add_one, hx2, he]; simp_all⟩ (by dsimp only; omega) ⟨rfl, rfl, rfl, trivial⟩ pf_nil (fun v _ h => by exact ⟨h.1, h.2.1, trivial⟩)
   ·
    replace hr3 := of_decide_eq_true hr3
    refine run_cond_t rfl (run_seq (run_region (ops_val (yld_assign rfl) rfl (ops_nil (fin_next rfl (run_ret ?_))))))
    exact ret1 Tryz.results24 () (get_bool rfl (by symm; apply decide_eq_false; intro e; subst e; rw [hx1] at hx2; simp_all)) pf_nil (fun _ _ _ => trivial)
 ·
  replace hr1 := ne_of_bne hr1
  refine run_cond_t rfl (run_seq (run_region (ops_val (yld_assign rfl) rfl (ops_nil (fin_next rfl (run_ret ?_))))))
  exact ret1 Tryz.results24 () (get_bool rfl (by symm; apply decide_eq_false; intro e; subst e; omega)) pf_nil (fun _ _ _ => trivial)
theorem sameC_c (c d : Cl) (h1 : c.atoms.length ≤ 1000000000000) (h2 : c.facts.length ≤ 1000000000000) (h3 : d.atoms.length ≤ 1000000000000) (h4 : d.facts.length ≤ 1000000000000) : Tri Tryz.prog 20 #[Cl.val c, Cl.val d] [] [rowF (Cl.aad c) (List.flatMap strC (Cl.atoms c)), rowF (Cl.fad c) (List.flatMap Fc.cells (Cl.facts c)), rowF (Cl.aad d) (List.flatMap strC (Cl.atoms d)), rowF (Cl.fad d) (List.flatMap Fc.cells (Cl.facts d))] (fun _ : Unit => .bool (decide (c.atoms = d.atoms) && decide (c.facts = d.facts))) (fun _ => []) (fun _ => []) := by
  refine tri_of_body Tryz.func20 rfl rfl Tryz.ntmps20 rfl fun v0 => ?_
  refine run_seq (run_region (ops_box rfl rfl fun b1 => ?_))
  refine ops_box rfl rfl fun b2 => ?_
  refine ops_val (yld_assign rfl) rfl (ops_nil (fin_next rfl (run_seq (run_region (ops_val (yld_field Tryz.runUnderlying28 rfl rfl rfl Tryz.sizeOf25) rfl ?_)))))
  refine ops_val (yld_load 1 Tryz.isAgg25 rfl rfl rfl) rfl ?_
  refine ops_val (yld_field Tryz.runUnderlying28 rfl rfl rfl Tryz.sizeOf25) rfl ?_
  refine ops_val (yld_load 0 Tryz.isAgg25 rfl rfl rfl) rfl ?_
  refine ops_callB (sameS_c (Cl.atoms c) (Cl.atoms d) (Cl.aad c) (Cl.aad d) (Cl.acap c) (Cl.acap d) (by omega) (by omega)) rfl pf_nil (fun v _ h => by exact ⟨h.1, h.2.2.1, trivial⟩) rfl fun r1 hr1 => ?_
  refine ops_val (yld_move rfl) rfl ?_
  cases r1
  · skip
    replace hr1 := of_decide_eq_false hr1
    refine ops_no rfl rfl rfl rfl (ops_no rfl rfl rfl rfl (ops_no rfl rfl rfl rfl (ops_no rfl rfl rfl rfl (ops_no rfl rfl rfl rfl (ops_val (yld_pick_f rfl rfl) rfl ?_)))))
    refine ops_val (yld_assign rfl) rfl (ops_nil (fin_next rfl (run_ret ?_)))
    exact ret1 Tryz.results20 () (get_bool rfl (by have p1 := eq_false hr1; simp only [p1, if_true, if_false, decide_true, decide_false, Bool.and_true, Bool.and_false, Bool.true_and, Bool.false_and, Bool.or_true, Bool.or_false, Bool.true_or, Bool.false_or, Bool.not_true, Bool.not_false, ne_eq, not_true_eq_false, not_false_eq_true, true_and, and_true, false_and, and_false, true_or, or_true, false_or, or_false, ite_true, ite_false, Bool.false_eq_true])) pf_nil (fun _ _ _ => trivial)
  · skip
    replace hr1 := of_decide_eq_true hr1
    refine ops_yes rfl rfl (ops_val (yld_field Tryz.runUnderlying28 rfl rfl rfl Tryz.sizeOf26) rfl ?_)
    refine ops_yes rfl rfl (ops_val (yld_load 1 Tryz.isAgg26 rfl rfl rfl) rfl ?_)
    refine ops_yes rfl rfl (ops_val (yld_field Tryz.runUnderlying28 rfl rfl rfl Tryz.sizeOf26) rfl ?_)
    refine ops_yes rfl rfl (ops_val (yld_load 0 Tryz.isAgg26 rfl rfl rfl) rfl ?_)
    refine ops_yes rfl rfl (ops_callB (sameF_c (Cl.facts c) (Cl.facts d) (Cl.fad c) (Cl.fad d) (Cl.fcap c) (Cl.fcap d) (by omega) (by omega)) rfl pf_nil (fun v _ h => by exact ⟨h.2.1, h.2.2.2.1, trivial⟩) rfl fun r2 hr2 => ?_)
    refine ops_val (yld_pick_t rfl rfl) rfl ?_
    refine ops_val (yld_assign rfl) rfl (ops_nil (fin_next rfl (run_ret ?_)))
    exact ret1 Tryz.results20 () (get_bool rfl (by have p1 := eq_true hr1; rw [← hr2]; simp only [p1, if_true, if_false, decide_true, decide_false, Bool.and_true, Bool.and_false, Bool.true_and, Bool.false_and, Bool.or_true, Bool.or_false, Bool.true_or, Bool.false_or, Bool.not_true, Bool.not_false, ne_eq, not_true_eq_false, not_false_eq_true, true_and, and_true, false_and, and_false, true_or, or_true, false_or, or_false, ite_true, ite_false, Bool.false_eq_true])) pf_nil (fun _ _ _ => trivial)
end Go.Proofs.YtpdbbglpbngeiaaGreatDoor
namespace Go.Proofs.YtpdbbglpbngeiaaGreatDoor
open Go Go.Sx Go.Proofs
set_option linter.unusedVariables false
attribute [local irreducible] Code.wp wpList wpAnyH
open Go.Vs
theorem str_inj {a b : Str} (h : str a = str b) : a = b := by
  have h1 := Value.string.inj h
  have h2 := congrArg (fun z : ByteArray => z.data.toList) h1
  simpa using h2
theorem Fc.val_inj (x y : Fc) (h : x.val = y.val) : x = y := by
  obtain ⟨k, a, b, r, lo, hi⟩ := x
  obtain ⟨k', a', b', r', lo', hi'⟩ := y
  have h1 : [Value.int .i64 k, str a, str b, str r, .int .i64 lo, .int .i64 hi] = [Value.int .i64 k', str a', str b', str r', .int .i64 lo', .int .i64 hi'] := by
    exact congrArg Array.toList (Value.agg.inj h)
  simp only [List.cons.injEq, Value.int.injEq, true_and, and_true] at h1
  obtain ⟨rfl, ha, hb, hr, rfl, rfl⟩ := h1
  rw [str_inj ha, str_inj hb, str_inj hr]
theorem keys1_c {σ : Type} {l : Nat} {Gj : σ → Hp} {lst : σ → List Fc} (hY : ∀ s x, (lst s).length < 1000000000000 → YTri Tryz.prog l (Fc.val x) (Gj s) [] (fun _ : {s' : σ // lst s' = lst s ++ [x]} => .bool true) (fun s' => Gj s'.1) (fun _ => [])) (s0 : σ) (hs0 : lst s0 = []) (mb bx c : Nat) (es : Array MapEntry) (q : List Fc) (hE : SetE Fc.val es q) (hB : Born es c) (hql : q.length ≤ 1000000000000) : Tri Tryz.prog 122 #[.func (.yield l) #[] #[], .pointer (some ⟨bx, 0, none⟩)] ((bx, .cells #[.map (some mb)] 88 (0, 0)) :: (mb, .map es c) :: Gj s0) [] (fun _ : {s' : σ // (lst s').Perm q} => .tuple #[]) (fun s' => (bx, .cells #[.map (some mb)] 88 (0, 0)) :: (mb, .map es c) :: Gj s'.1) (fun _ => []) := by
 refine tri_of_body Tryz.func122 rfl rfl Tryz.ntmps122 rfl fun v0 => ?_
 refine run_seq (run_region (ops_val (yld_load 0 Tryz.isAgg88 rfl rfl rfl) rfl ?_))
 refine ops_range 1 Tryz.underlying88 rfl rfl rfl fun rr => ?_
 refine ops_nil (fin_next rfl (run_block (ok_fr [(0, .func (.yield l) #[] #[]), (1, .pointer (some ⟨bx, 0, none⟩)), (5, .pointer (some ⟨rr, 0, none⟩))] ⟨rfl, rfl, rfl, trivial⟩ ?_)))
 refine ok_weak (H' := ((rr, .mapIter (some mb) c #[] c) :: ((bx, .cells #[.map (some mb)] 88 (0, 0)) :: ((mb, .map es c) :: (Gj s0))))) (Γ' := []) (pf_takeB pf_here (pf_takeB pf_here (pf_takeB pf_here pf_end))) (fun _ _ _ => trivial) ?_
 refine run_loop (ι := {y : List Fc × Array Nat × Nat × σ // ItS Fc.val es y.2.1 y.1 ∧ c ≤ y.2.2.1 ∧ lst y.2.2.2 = y.1 ∧ (∀ z ∈ y.1, z ∈ q)}) (fun y => [(0, .func (.yield l) #[] #[]), (1, .pointer (some ⟨bx, 0, none⟩)), (5, .pointer (some ⟨rr, 0, none⟩))]) (fun y => ((rr, .mapIter (some mb) c y.1.2.1 y.1.2.2.1) :: ((bx, .cells #[.map (some mb)] 88 (0, 0)) :: ((mb, .map es c) :: (Gj y.1.2.2.2))))) (fun y => []) (fun y => List.length q - List.length y.1.1) ⟨([], #[], c, s0), ItS.nil, Nat.le_refl _, hs0, by simp⟩ ?_
 rintro ⟨⟨done, seen, c0, s⟩, hI, hsc, hls, hsub⟩
 dsimp only at hI hsc hls hsub ⊢
 refine ok_fr [(0, .func (.yield l) #[] #[]), (1, .pointer (some ⟨bx, 0, none⟩)), (5, .pointer (some ⟨rr, 0, none⟩))] ⟨rfl, rfl, rfl, trivial⟩ ?_
 refine run_seq (run_region ?_)
 refine ops_next 0 2 rfl rfl rfl hB.lt hsc rfl (fun h0 => ?_) (fun e he => ?_)
 ·
  refine ops_val (yld_extract rfl rfl) rfl ?_
  refine ops_nil (fin_next rfl (run_seq (run_cond_f rfl (run_exit rfl (fin_end rfl ?_)))))
  exact end0 Tryz.results122 ⟨s, by rw [hls]; exact hI.end Fc.val_inj hE h0⟩ rfl (pf_takeB (pf_cons pf_here) (pf_takeB (pf_cons pf_here) pf_lastB)) (fun _ _ _ => trivial)
 ·
  obtain ⟨k, hkq, hkd, hkv, hem, hI2⟩ := hI.step Fc.val_inj hE hB he
  refine ops_val (yld_extract rfl rfl) rfl ?_
  refine ops_nil (fin_next rfl (run_seq (run_cond_t rfl (run_skip (fin_next rfl (run_block (run_seq ?_)))))))
  refine run_region (ops_val (yld_eq (yld_entry 0 2 rfl rfl rfl hem hB) (show _ = Value.tuple #[Fc.val k, e.val] by rw [hkv])) rfl ?_)
  refine ops_val (yld_extract rfl rfl) rfl ?_
  refine ops_alloc Tryz.zeroValue41 rfl fun b1 => ?_
  refine ops_store 0 Tryz.sizeOf41 rfl rfl rfl rfl rfl rfl ?_
  refine ops_nil (fin_next rfl (run_seq ?_))
  refine run_yreg (ι := {s' : σ // lst s' = lst s ++ [k]}) (fun _ => [(0, .func (.yield l) #[] #[]), (1, .pointer (some ⟨bx, 0, none⟩)), (5, .pointer (some ⟨rr, 0, none⟩)), (13, .bool false)]) (fun z => ((b1, .cells #[.int .i64 (Fc.kind k), str (Fc.a k), str (Fc.b k), str (Fc.r k), .int .i64 (Fc.lo k), .int .i64 (Fc.hi k)] 41 (0, 0)) :: ((rr, .mapIter (some mb) c (seen.push e.born) c) :: ((bx, .cells #[.map (some mb)] 88 (0, 0)) :: ((mb, .map es c) :: (Gj z.1)))))) (fun _ => []) ?_ ?_
  ·
   refine runI_region ?_
   refine opsI_val opn_wide (yld_move rfl) rfl rfl ?_
   refine opsI_val opn_wide (yld_loadS 0 Tryz.isAgg41 Tryz.sizeOf41 rfl rfl rfl) rfl rfl ?_
   refine opsI_yield (hY s k (by rw [hls]; have := nodup_le hI2.nd (m := q) (fun z hz => by rcases List.mem_append.1 hz with hz | hz; exact hsub z hz; rw [List.mem_singleton] at hz; exact hz ▸ hkq); rw [List.length_append, List.length_singleton] at this; omega)) rfl rfl (pf_cons (pf_cons (pf_cons pf_lastB))) (fun _ _ _ => trivial) rfl fun z => ?_
   refine opsI_val opn_wide (yld_not rfl) rfl rfl ?_
   refine opsI_nil ?_
   refine finI_end rfl ?_
   exact midI_done z ⟨rfl, rfl, rfl, rfl, trivial⟩ (pf_takeB (pf_app pf_here) (pf_takeB (pf_app pf_here) (pf_takeB (pf_app pf_here) (pf_takeB pf_last pf_end)))) (fun _ _ h => h)
  ·
   rintro ⟨s', hs'⟩
   dsimp only
   refine fin_next rfl (run_cond_f rfl (run_skip (fin_inv rfl ?_)))
   exact ok_again ⟨(done ++ [k], seen.push e.born, c, s'), hI2, Nat.le_refl _, by rw [hs', hls], fun z hz => by rcases List.mem_append.1 hz with hz | hz; exact hsub z hz; rw [List.mem_singleton] at hz; exact hz ▸ hkq⟩ (by have := nodup_le hI2.nd (m := q) (fun z hz => by rcases List.mem_append.1 hz with hz | hz; exact hsub z hz; rw [List.mem_singleton] at hz; exact hz ▸ hkq); rw [List.length_append, List.length_singleton] at this; dsimp only; rw [List.length_append, List.length_singleton]; omega) ⟨rfl, rfl, rfl, trivial⟩ (pf_takeB (pf_cons pf_here) (pf_takeB (pf_cons pf_here) (pf_takeB (pf_cons pf_here) pf_lastB))) (fun _ _ _ => trivial)
theorem pf_as2 {H A B C G : Hp} {b : Nat × Obj} (h : H.Perm ((b :: (A ++ (B ++ C))) ++ G)) : H.Perm ((b :: A) ++ B ++ (C ++ G)) := by simpa [List.append_assoc] using h
theorem perm_D5 {a b c d e : Nat × Obj} {Q : Hp} : (a :: b :: c :: (Q ++ [d, e])).Perm (e :: a :: b :: c :: (Q ++ [d])) := by
  have h1 : (a :: b :: c :: (Q ++ [d, e])) = (a :: b :: c :: (Q ++ [d])) ++ [e] := by simp
  rw [h1]; exact List.perm_append_comm
theorem pf_D6 {a b c d : Nat × Obj} {Q : Hp} : (a :: b :: c :: (Q ++ [d])).Perm ((a :: b :: Q) ++ [c, d]) := by
  simp only [List.cons_append]
  refine List.Perm.cons a (List.Perm.cons b ?_)
  have h2 : Q ++ [c, d] = (Q ++ [c]) ++ [d] := by simp
  rw [h2]
  show (([c] ++ Q) ++ [d]).Perm _
  exact List.Perm.append_right _ List.perm_append_comm
theorem appSeq_c (mb bx c : Nat) (es : Array MapEntry) (q : List Fc) (hE : SetE Fc.val es q) (hB : Born es c) (hql : q.length ≤ 1000000000000) : Tri Tryz.prog 159 #[.slice none 0 0, .func (.func 122) #[] #[.pointer (some ⟨bx, 0, none⟩)]] [(bx, .cells #[.map (some mb)] 88 (0, 0)), (mb, .map es c)] [] (fun y : {y : Value × Hp × List Fc // SRow 41 6 y.1 y.2.2.length (y.2.2.flatMap Fc.cells) y.2.1 ∧ y.2.2.Perm q} => y.1.1) (fun y => (bx, .cells #[.map (some mb)] 88 (0, 0)) :: (mb, .map es c) :: y.1.2.1) (fun _ => []) := by
  refine tri_of_bodyM Tryz.func159 rfl rfl Tryz.ntmps159 rfl fun v0 => ?_
  refine run_seq (run_region (ops_box rfl rfl fun b1 => ?_))
  refine ops_val (yld_assign rfl) rfl (ops_nil (fin_next rfl (run_seq (run_seq (run_region (ops_val (yld_move rfl) rfl (ops_nil ?_)))))))
  refine fin_next rfl (run_block (ok_fr [(2, .pointer (some ⟨b1, 0, none⟩)), (6, .func (.func 122) #[] #[.pointer (some ⟨bx, 0, none⟩)])] ⟨rfl, rfl, trivial⟩ ?_))
  refine run_rangeR (σ := {y : Value × Hp × List Fc // SRow 41 6 y.1 y.2.2.length (y.2.2.flatMap Fc.cells) y.2.1}) (α := Fc) (xv := Fc.val) (good := fun s _ => s.1.2.2.length < 1000000000000) (nx := fun x s s' => s'.1.2.2 = s.1.2.2 ++ [x]) (Rc := fun s => (s.1.2.2).Perm q) (Γi := []) (Hj := fun y => (b1, .cells #[y.1.1] 26 (0, 0)) :: y.1.2.1) (Hc := [(bx, .cells #[.map (some mb)] 88 (0, 0)), (mb, .map es c)]) (caps := [.pointer (some ⟨bx, 0, none⟩)]) ⟨(.slice none 0 0, [], []), SRow.nil _ _⟩ rfl (@List.perm_append_comm _ [_] _) (fun _ _ _ => trivial) ?_ ?_ ?_
  · rintro l D rec hp hst hpe ht hasg hbody ⟨⟨sv, Hq, L⟩, hr⟩ x hx
    dsimp only at hr hx ⊢
    refine ytri_roundR (ι := Nat) (Hj := fun y : {y : Value × Hp × List Fc // SRow 41 6 y.1 y.2.2.length (y.2.2.flatMap Fc.cells) y.2.1} => (b1, .cells #[y.1.1] 26 (0, 0)) :: y.1.2.1) (s := ⟨(sv, Hq, L), hr⟩) (ok := fun s' => s'.1.2.2 = L ++ [x]) (Γ := []) (fun b2 => [(2, .pointer (some ⟨b1, 0, none⟩)), (5, .pointer (some ⟨b2, 0, none⟩))]) (fun b2 => (b2, .cells #[.int .i64 (Fc.kind x), str (Fc.a x), str (Fc.b x), str (Fc.r x), .int .i64 (Fc.lo x), .int .i64 (Fc.hi x)] 41 (0, 0)) :: (b1, .cells #[sv] 26 (0, 0)) :: Hq) hp hst hpe ht rfl ?_ ?_
    · intro n v0 H0 HL
      rw [hasg]
      dsimp only
      refine okD_ok.2 (ok_perm (H' := (b1, .cells #[sv] 26 (0, 0)) :: (Hq ++ HL)) (by simp) (okD_ok.1 ?_))
      refine runI_region ?_
      refine opsI_alloc (opn_round _) Tryz.zeroValue41 rfl fun b2 => ?_
      refine opsI_store (opn_round _) 0 Tryz.sizeOf41 rfl rfl rfl rfl rfl rfl ?_
      refine opsI_nil ?_
      refine finI_end rfl ?_
      exact midI_done b2 ⟨rfl, rfl, trivial⟩ (F := []) (by rw [List.append_nil]; exact .refl _) (fun _ _ h => h)
    · intro n v0 H0 HL b2
      rw [hbody]
      refine okD_ok.2 (ok_perm (H' := (b2, .cells #[.int .i64 (Fc.kind x), str (Fc.a x), str (Fc.b x), str (Fc.r x), .int .i64 (Fc.lo x), .int .i64 (Fc.hi x)] 41 (0, 0)) :: (b1, .cells #[sv] 26 (0, 0)) :: (Hq ++ HL)) (by simp) (okD_ok.1 ?_))
      refine runI_block ?_
      refine runI_region ?_
      refine opsI_val (opn_round _) (yld_load 1 Tryz.isAgg26 rfl rfl rfl) rfl rfl ?_
      refine opsI_val (opn_round _) (yld_loadS 0 Tryz.isAgg41 Tryz.sizeOf41 rfl rfl rfl) rfl rfl ?_
      refine opsI_slit (opn_round _) Tryz.runUnderlying26 Tryz.sizeOf41 Tryz.zeroValue41 rfl rfl rfl rfl rfl rfl fun b3 => ?_
      refine opsI_append (opn_round _) (news := List.flatMap Fc.cells [x]) elt_fc hr rfl rfl (pf_cons (pf_cons (pf_cons pf_hereO))) rfl (own_news 0 rfl) (fun u hu => one_rows Fc.cells_one hu) (by simp only [maxLen]; omega) (by omega) rfl fun sv1 Hr1 hr1 => ?_
      have hq1 : SRow 41 6 sv1 (List.length (L ++ [x])) (List.flatMap Fc.cells (L ++ [x])) Hr1 := by rw [List.length_append, List.flatMap_append]; exact hr1
      refine okD_perm (pf_fB (pf_app pf_here) (pf_fB (pf_app pf_here) (pf_f1 (pf_app pf_here)))) ?_
      refine opsI_storeRow (opn_round _) 2 hq1 Tryz.sizeOf26 rfl rfl rfl rfl ?_
      refine opsI_nil ?_
      refine finI_end rfl ?_
      exact roundR_end ⟨(sv1, Hr1, (L ++ [x])), hq1⟩ rfl (pf_as2 (pf_takeB (pf_cons (pf_cons pf_here)) (pf_takeO (pf_cons (pf_cons pf_hereO)) (pf_takeO (pf_cons pf_lastB) (pf_takeB pf_here pf_here)))))
  · intro l Gj hY
    exact keys1_c (lst := fun y => y.1.2.2) (fun s x h => hY s x h) ⟨(.slice none 0 0, [], []), SRow.nil _ _⟩ rfl mb bx c es q hE hB hql
  · rintro ⟨⟨sv, Hq, L⟩, hr⟩ hL D l r
    dsimp only at hL hr ⊢
    refine finI_next rfl ?_
    refine runI_seq ?_
    refine runI_region ?_
    refine opsI_val opn_wide (yld_load 2 Tryz.isAgg26 rfl rfl rfl) rfl rfl ?_
    refine opsI_val opn_wide (yld_assign rfl) rfl rfl ?_
    refine opsI_nil ?_
    refine finI_next rfl ?_
    refine runI_ret ?_
    exact retMD (G := (bx, .cells #[.map (some mb)] 88 (0, 0)) :: (mb, .map es c) :: (b1, .cells #[sv] 26 (0, 0)) :: (Hq ++ [(l, .loop r)])) ⟨(sv, Hq, L), hr, hL⟩ (fun a v h1 h2 => by have e := h1.val 4 sv rfl; simp [results, Tryz.results159, e]) (by unfold HLp; simp only [List.cons_append, List.append_assoc, List.nil_append]; exact perm_D5) ⟨_, pf_D6⟩ rfl
end Go.Proofs.YtpdbbglpbngeiaaGreatDoor
namespace Go.Proofs.YtpdbbglpbngeiaaGreatDoor
open Go Go.Sx Go.Proofs
set_option linter.unusedVariables false
attribute [local irreducible] Code.wp wpList wpAnyH
open Go.Vs
theorem srtF_perm {L q : List Fc} (h : L.Perm q) (hn : q.Nodup) : srtF L = srtF q :=
  Srt.ext (srtF_srt (h.nodup_iff.2 hn)) (srtF_srt hn) fun x => by rw [srtF_mem, srtF_mem]; exact h.mem_iff
theorem collect_c (mb bx c : Nat) (es : Array MapEntry) (q : List Fc) (hE : SetE Fc.val es q) (hB : Born es c) (hql : q.length ≤ 1000000000000) : Tri Tryz.prog 121 #[.func (.func 122) #[] #[.pointer (some ⟨bx, 0, none⟩)]] [(bx, .cells #[.map (some mb)] 88 (0, 0)), (mb, .map es c)] [] (fun y : {y : Value × Hp × List Fc // SRow 41 6 y.1 y.2.2.length (y.2.2.flatMap Fc.cells) y.2.1 ∧ y.2.2.Perm q} => y.1.1) (fun y => (bx, .cells #[.map (some mb)] 88 (0, 0)) :: (mb, .map es c) :: y.1.2.1) (fun _ => []) := by
  refine tri_of_body Tryz.func121 rfl rfl Tryz.ntmps121 rfl fun v0 => ?_
  refine run_seq (run_region (ops_val (yld_assign rfl) rfl (ops_nil (fin_next rfl (run_seq (run_region (ops_val (yld_move rfl) rfl ?_)))))))
  refine ops_call (appSeq_c mb bx c es q hE hB hql) rfl (pf_takeB pf_here pf_here) (fun _ _ _ => by exact trivial) rfl fun ⟨⟨sv1, Hq1, L1⟩, hr1, hL1⟩ => ?_
  dsimp only
  simp only [List.cons_append, List.append_nil]
  refine ops_val (yld_assign rfl) rfl (ops_nil (fin_next rfl (run_ret ?_)))
  exact ret1 Tryz.results121 ⟨(sv1, Hq1, L1), hr1, hL1⟩ rfl (pf_takeB pf_here (pf_takeB pf_here pf_end)) (fun _ _ _ => trivial)
theorem sortedF_c (mb bx c : Nat) (es : Array MapEntry) (q : List Fc) (hE : SetE Fc.val es q) (hB : Born es c) (hql : q.length ≤ 1000000000000) : Tri Tryz.prog 68 #[.func (.func 122) #[] #[.pointer (some ⟨bx, 0, none⟩)], .func (.func 61) #[] #[]] [(bx, .cells #[.map (some mb)] 88 (0, 0)), (mb, .map es c)] [] (fun y : {y : Option Addr × Nat // (srtF q).length ≤ y.2 ∧ y.2 ≤ maxLen ∧ (y.1 = none → y.2 = 0)} => .slice y.1.1 (srtF q).length y.1.2) (fun _ => []) (fun y => [rowF y.1.1 ((srtF q).flatMap Fc.cells)]) := by
  refine tri_of_body Tryz.func68 rfl rfl Tryz.ntmps68 rfl fun v0 => ?_
  refine run_seq (run_region (ops_val (yld_assign rfl) rfl (ops_nil (fin_next rfl (run_seq (run_region (ops_val (yld_move rfl) rfl ?_)))))))
  refine ops_call (collect_c mb bx c es q hE hB hql) rfl (pf_takeB pf_here pf_here) (fun _ _ _ => by exact trivial) rfl fun ⟨⟨sv1, Hq1, L1⟩, hr1, hL1⟩ => ?_
  dsimp only
  simp only [List.cons_append, List.append_nil]
  refine ops_val (yld_assign rfl) rfl (ops_nil (fin_next rfl (run_seq (run_region (ops_val (yld_move rfl) rfl (ops_val (yld_move rfl) rfl (ops_call (sortF_c hr1 (by have := hL1.length_eq; omega)) rfl (pf_cons pf_lastB) (fun _ _ _ => by exact trivial) rfl fun ⟨Hq9, hq9⟩ => ?_)))))))
  dsimp only
  refine ops_nil (fin_next rfl (ok_perm (pf_fB (pf_app pf_here) (pf_f1 pf_last)) ?_))
  refine run_seq (run_region (ops_val (yld_move rfl) rfl (ops_val (yld_assign rfl) rfl (ops_nil (fin_next rfl (run_ret ?_))))))
  rw [srtF_perm hL1 hE.nd] at hq9
  refine ok_giveRowN hq9 (pf_cons pf_lastB) fun ad2 cp2 had2 hcad2 hmad2 hzad2 => ?_
  exact ret1 Tryz.results68 ⟨(ad2, cp2), hcad2, hmad2, hzad2⟩ (get_val rfl had2) pf_nil (fun v _ h => ⟨h.1, trivial⟩)
theorem keysF_c (mb : Nat) : Tri Tryz.prog 69 #[.map (some mb)] [] [] (fun bx : Nat => .func (.func 122) #[] #[.pointer (some ⟨bx, 0, none⟩)]) (fun bx => [(bx, .cells #[.map (some mb)] 88 (0, 0))]) (fun _ => []) := by
  refine tri_of_body Tryz.func69 rfl rfl Tryz.ntmps69 rfl fun v0 => ?_
  refine run_seq (run_region (ops_box rfl rfl fun b1 => ?_))
  refine ops_val (yld_assign rfl) rfl (ops_nil (fin_next rfl (run_seq (run_region (ops_val (yld_func rfl rfl) rfl ?_)))))
  refine ops_val (yld_assign rfl) rfl (ops_nil (fin_next rfl (run_ret ?_)))
  exact ret1 Tryz.results69 b1 rfl (F := []) (.refl _) (fun _ _ _ => trivial)
end Go.Proofs.YtpdbbglpbngeiaaGreatDoor
