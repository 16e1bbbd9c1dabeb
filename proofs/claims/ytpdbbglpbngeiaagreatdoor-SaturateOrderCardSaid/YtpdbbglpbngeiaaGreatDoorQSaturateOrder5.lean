/-
  Part of the proof of the law SaturateOrder over this seat: the small logic, the data, the contracts of functions (no condition).
-/
import Derived.Test.YtpdbbglpbngeiaaGreatDoorQSaturateOrder4
import Derived.Test.YtpdbbglpbngeiaaGreatDoorQSaturateOrder3
import Derived.Test.YtpdbbglpbngeiaaGreatDoorQSaturateOrder2
set_option linter.unusedVariables false
set_option linter.unusedSimpArgs false
set_option linter.unusedSectionVars false
namespace Go.Proofs.YtpdbbglpbngeiaaGreatDoor
open Go Go.Sx Go.Proofs
set_option linter.unusedVariables false
attribute [local irreducible] Code.wp wpList wpAnyH
open Go.Vs
def ivC (i : Int × Int) : List Value := [.int .i64 i.1, .int .i64 i.2]
theorem ivC_len (i : Int × Int) : (ivC i).length = 2 := rfl
def ivV (i : Int × Int) : Value := .agg (ivC i).toArray
def ivCheck (i : Int × Int) : Int := if min i.1 i.2 < -1099511627776 ∨ 1099511627776 < max i.1 i.2 then 1 else if i.2 < i.1 then 80 else 0
def ivNext (e : Int) (i : Int × Int) : Int := if e ≠ 0 then e else ivCheck i
def ivFold (l : List (Int × Int)) : Int := l.foldl ivNext 0
theorem ivFold_step {l : List (Int × Int)} {i : Nat} {x : Int × Int} (h : l[i]? = some x) : ivFold (List.take (i + 1) l) = ivNext (ivFold (List.take i l)) x := by
  unfold ivFold; rw [List.take_add_one, h, Option.toList_some, List.foldl_append]; rfl
def ivIn (a b : Int × Int) : Bool := decide (ivFold [a, b] = 0) && (decide (b.1 ≤ a.1) && decide (a.2 ≤ b.2))
theorem ivIn_ok {a b : Int × Int} (ha : -1099511627776 ≤ a.1 ∧ a.1 ≤ a.2 ∧ a.2 ≤ 1099511627776) (hb : -1099511627776 ≤ b.1 ∧ b.1 ≤ b.2 ∧ b.2 ≤ 1099511627776) : ivIn a b = decide (b.1 ≤ a.1 ∧ a.2 ≤ b.2) := by
  have e : ∀ i : Int × Int, -1099511627776 ≤ i.1 ∧ i.1 ≤ i.2 ∧ i.2 ≤ 1099511627776 → ivCheck i = 0 := fun i h => by
    unfold ivCheck; rw [if_neg (by omega), if_neg (by omega)]
  have e2 : ivFold [a, b] = 0 := by simp [ivFold, ivNext, e a ha, e b hb]
  unfold ivIn; rw [e2, Bool.eq_iff_iff]; simp
theorem strt175 : Strt Tryz.prog 175 [(0, 1), (1, 1)] [.int .i64 0, .int .i64 0] := ⟨_, Tryz.zeroValue175, Tryz.runUnderlying175, fun w => by simp [Tryz.sizeOf3]⟩
theorem ivCheck_c (i : Int × Int) : Fn0 Tryz.prog 206 #[ivV i] (.int .i64 (ivCheck i)) := by
 refine tri_of_body Tryz.func206 rfl rfl Tryz.ntmps206 rfl fun v0 => ?_
 refine run_seq (run_region (ops_box rfl rfl fun b1 => ?_))
 refine ops_val (yld_assign rfl) rfl (ops_nil (fin_next rfl (run_seq (run_seq (run_region (ops_val (yld_field Tryz.runUnderlying175 rfl rfl rfl Tryz.sizeOf3) rfl ?_))))))
 refine ops_val (yld_load 0 Tryz.isAgg3 rfl rfl rfl) rfl ?_
 refine ops_val (yld_field Tryz.runUnderlying175 rfl rfl rfl Tryz.sizeOf3) rfl ?_
 refine ops_val (yld_load 0 Tryz.isAgg3 rfl rfl rfl) rfl ?_
 refine ops_val (yld_minI rfl rfl) rfl ?_
 refine ops_valB (yld_lss rfl rfl) rfl fun r1 hr1 => ?_
 refine ops_val (yld_move rfl) rfl ?_
 cases r1
 ·
  replace hr1 := of_decide_eq_false hr1
  refine ops_yes rfl rfl (ops_val (yld_field Tryz.runUnderlying175 rfl rfl rfl Tryz.sizeOf3) rfl ?_)
  refine ops_yes rfl rfl (ops_val (yld_load 0 Tryz.isAgg3 rfl rfl rfl) rfl ?_)
  refine ops_yes rfl rfl (ops_val (yld_field Tryz.runUnderlying175 rfl rfl rfl Tryz.sizeOf3) rfl ?_)
  refine ops_yes rfl rfl (ops_val (yld_load 0 Tryz.isAgg3 rfl rfl rfl) rfl ?_)
  refine ops_yes rfl rfl (ops_val (yld_maxI rfl rfl) rfl ?_)
  refine ops_yes rfl rfl (ops_valB (yld_gtr rfl rfl) rfl fun r2 hr2 => ?_)
  refine ops_val (yld_pick_f rfl rfl) rfl ?_
  refine ops_nil (fin_next rfl ?_)
  cases r2
  ·
   replace hr2 := of_decide_eq_false hr2
   refine run_cond_f rfl (run_skip (fin_next rfl (run_seq (run_seq (run_region (ops_val (yld_field Tryz.runUnderlying175 rfl rfl rfl Tryz.sizeOf3) rfl ?_))))))
   refine ops_val (yld_load 0 Tryz.isAgg3 rfl rfl rfl) rfl ?_
   refine ops_val (yld_field Tryz.runUnderlying175 rfl rfl rfl Tryz.sizeOf3) rfl ?_
   refine ops_val (yld_load 0 Tryz.isAgg3 rfl rfl rfl) rfl ?_
   refine ops_valB (yld_gtr rfl rfl) rfl fun r3 hr3 => ?_
   refine ops_nil (fin_next rfl ?_)
   cases r3
   ·
    replace hr3 := of_decide_eq_false hr3
    refine run_cond_f rfl (run_skip (fin_next rfl (run_seq (run_region (ops_val (yld_assign rfl) rfl (ops_nil (fin_next rfl ?_)))))))
    refine run_ret ?_
    exact ret1 Tryz.results206 () (get_int rfl (by unfold ivCheck; first | (rw [if_pos (by omega)]) | (rw [if_neg (by omega), if_pos (by omega)]) | (rw [if_neg (by omega), if_neg (by omega)]))) pf_nil (fun _ _ _ => trivial)
   ·
    replace hr3 := of_decide_eq_true hr3
    refine run_cond_t rfl (run_seq (run_region (ops_val (yld_assign rfl) rfl (ops_nil (fin_next rfl (run_ret ?_))))))
    exact ret1 Tryz.results206 () (get_int rfl (by unfold ivCheck; first | (rw [if_pos (by omega)]) | (rw [if_neg (by omega), if_pos (by omega)]) | (rw [if_neg (by omega), if_neg (by omega)]))) pf_nil (fun _ _ _ => trivial)
  ·
   replace hr2 := of_decide_eq_true hr2
   refine run_cond_t rfl (run_seq (run_region (ops_val (yld_assign rfl) rfl (ops_nil (fin_next rfl (run_ret ?_))))))
   exact ret1 Tryz.results206 () (get_int rfl (by unfold ivCheck; first | (rw [if_pos (by omega)]) | (rw [if_neg (by omega), if_pos (by omega)]) | (rw [if_neg (by omega), if_neg (by omega)]))) pf_nil (fun _ _ _ => trivial)
 ·
  replace hr1 := of_decide_eq_true hr1
  refine ops_no rfl rfl rfl rfl (ops_no rfl rfl rfl rfl (ops_no rfl rfl rfl rfl (ops_no rfl rfl rfl rfl (ops_no rfl rfl rfl rfl (ops_no rfl rfl rfl rfl (ops_val (yld_pick_t rfl rfl) rfl ?_))))))
  refine ops_nil (fin_next rfl (run_cond_t rfl (run_seq (run_region (ops_val (yld_assign rfl) rfl (ops_nil (fin_next rfl ?_)))))))
  refine run_ret ?_
  exact ret1 Tryz.results206 () (get_int rfl (by unfold ivCheck; first | (rw [if_pos (by omega)]) | (rw [if_neg (by omega), if_pos (by omega)]) | (rw [if_neg (by omega), if_neg (by omega)]))) pf_nil (fun _ _ _ => trivial)
theorem ivOne_c (e : Int) (i : Int × Int) : Fn0 Tryz.prog 205 #[.int .i64 e, ivV i] (.int .i64 (ivNext e i)) := by
  refine tri_of_body Tryz.func205 rfl rfl Tryz.ntmps205 rfl fun v0 => ?_
  refine run_seq (run_region (ops_box rfl rfl fun b1 => ?_))
  refine ops_val (yld_assign rfl) rfl (ops_nil (fin_next rfl (run_seq (run_seq (run_region (ops_val (yld_move rfl) rfl (ops_valB (yld_neq rfl rfl) rfl fun r1 hr1 => ?_)))))))
  refine ops_nil (fin_next rfl ?_)
  cases r1
  · skip
    replace hr1 := eq_of_bne hr1
    refine run_cond_f rfl (run_skip (fin_next rfl (run_seq (run_region (ops_val (yld_loadS 0 Tryz.isAgg175 Tryz.sizeOf175 rfl rfl rfl) rfl ?_)))))
    refine ops_call (ivCheck_c i) rfl pf_nil (fun _ _ _ => by exact trivial) rfl fun _ => ?_
    refine ops_val (yld_assign rfl) rfl (ops_nil (fin_next rfl (run_ret ?_)))
    exact ret1 Tryz.results205 () (get_int rfl (by unfold ivNext; first | (rw [if_pos (by assumption)]) | (rw [if_neg (by omega)]))) pf_nil (fun _ _ _ => trivial)
  · skip
    replace hr1 := ne_of_bne hr1
    refine run_cond_t rfl (run_seq (run_region (ops_val (yld_move rfl) rfl (ops_val (yld_assign rfl) rfl (ops_nil (fin_next rfl (run_ret ?_)))))))
    exact ret1 Tryz.results205 () (get_int rfl (by unfold ivNext; first | (rw [if_pos (by assumption)]) | (rw [if_neg (by omega)]))) pf_nil (fun _ _ _ => trivial)
theorem ivReduce_c (l : List (Int × Int)) (ad : Option Addr) (cap : Nat) (hl : l.length ≤ 1000000) : Tri Tryz.prog 204 #[.slice ad (List.length l) cap, .int .i64 0, .func (.func 205) #[] #[]] [] [rowF ad (List.flatMap ivC l)] (fun _ : Unit => .int .i64 (ivFold l)) (fun _ => []) (fun _ => []) := by
  refine tri_of_body Tryz.func204 rfl rfl Tryz.ntmps204 rfl fun v0 => ?_
  refine run_seq (run_region (ops_val (yld_assign rfl) rfl (ops_nil (fin_next rfl (run_seq (run_seq (run_region ?_)))))))
  refine ops_val (yld_move rfl) rfl (ops_val (yld_lenS Tryz.runUnderlying223 rfl) rfl ?_)
  refine ops_val (yld_move rfl) rfl (ops_nil (fin_next rfl (run_block (ok_fr [(1, .int .i64 (ivFold (List.take (0 : Nat) l))), (2, .func (.func 205) #[] #[]), (9, .slice ad (List.length l) cap), (10, .int .i64 (List.length l : Int)), (11, .int .i64 ((0 : Nat) : Int))] ⟨rfl, rfl, rfl, rfl, rfl, trivial⟩ ?_))))
  refine run_loop (ι := {y : Nat // y ≤ l.length}) (fun y => [(1, .int .i64 (ivFold (List.take y.1 l))), (2, .func (.func 205) #[] #[]), (9, .slice ad (List.length l) cap), (10, .int .i64 (List.length l : Int)), (11, .int .i64 (y.1 : Int))]) (fun y => ([])) (fun y => [rowF ad (List.flatMap ivC l)]) (fun y => l.length - y.1) ⟨(0 : Nat), by simp⟩ ?_
  rintro ⟨i, hi⟩
  dsimp only at hi ⊢
  refine ok_fr [(1, .int .i64 (ivFold (List.take i l))), (2, .func (.func 205) #[] #[]), (9, .slice ad (List.length l) cap), (10, .int .i64 (List.length l : Int)), (11, .int .i64 (i : Int))] ⟨rfl, rfl, rfl, rfl, rfl, trivial⟩ ?_
  refine run_seq (run_region (ops_valB (yld_lss rfl rfl) rfl fun r1 hr1 => ?_))
  refine ops_nil (fin_next rfl (run_seq ?_))
  cases r1
  · skip
    replace hr1 := of_decide_eq_false hr1
    refine run_cond_f rfl (run_exit rfl (fin_next rfl (run_seq (run_region (ops_val (yld_move rfl) rfl (ops_val (yld_assign rfl) rfl (ops_nil ?_)))))))
    refine fin_next rfl (run_ret ?_)
    exact ret1 Tryz.results204 () (get_int rfl (by rw [List.take_of_length_le (by omega)])) pf_nil (fun _ _ _ => trivial)
  · skip
    replace hr1 := of_decide_eq_true hr1
    have hlx1 : i < List.length l := by omega
    obtain ⟨x1, hx1⟩ : ∃ e0, l[i]? = some e0 := ⟨_, List.getElem?_eq_getElem hlx1⟩
    have hmx1 : x1 ∈ l := List.mem_of_getElem? hx1
    refine run_cond_t rfl (run_skip (fin_next rfl (run_seq (run_block (run_seq (run_region (ops_val (yld_indexR Tryz.runUnderlying223 Tryz.sizeOf175 rfl rfl (fun v _ h => row_adr (n := 2) ivC_len (by decide) (by exact h.1) hx1) (by omega) (by first | omega | (simp; done))) rfl ?_)))))))
    refine ops_val (yld_loadRS (ad := ad) (us := ivC x1) Tryz.isAgg175 Tryz.sizeOf175 rfl (fun v _ h => by exact h.1) (ivC_len _) (row_cells ivC_len hx1)) rfl ?_
    refine ops_alloc Tryz.zeroValue175 rfl fun b1 => ?_
    refine ops_store 0 Tryz.sizeOf175 rfl rfl rfl rfl rfl rfl ?_
    refine ops_nil (fin_next rfl (run_region (ops_val (yld_move rfl) rfl (ops_val (yld_move rfl) rfl (ops_val (yld_loadS 0 Tryz.isAgg175 Tryz.sizeOf175 rfl rfl rfl) rfl ?_)))))
    refine ops_calld (ivOne_c (ivFold (List.take i l)) x1) rfl rfl pf_nil (fun _ _ _ => by exact trivial) rfl fun _ => ?_
    refine ops_val (yld_assign rfl) rfl (ops_nil (fin_next rfl (run_region (ops_val (yld_arith rfl rfl rfl (wrap64 (by omega) (by omega))) rfl ?_))))
    refine ops_val (yld_move rfl) rfl (ops_nil (fin_inv rfl ?_))
    exact ok_again ⟨i + 1, hlx1⟩ (by dsimp only; omega) ⟨(get_int rfl (ivFold_step hx1).symm), rfl, rfl, rfl, rfl, trivial⟩ pf_nil (fun v _ h => by exact ⟨h.1, trivial⟩)
theorem ivAll_c (l : List (Int × Int)) (ad : Option Addr) (cap : Nat) (hl : l.length ≤ 1000000) : Tri Tryz.prog 184 #[.slice ad (List.length l) cap] [] [rowF ad (List.flatMap ivC l)] (fun _ : Unit => .int .i64 (ivFold l)) (fun _ => []) (fun _ => []) := by
  refine tri_of_body Tryz.func184 rfl rfl Tryz.ntmps184 rfl fun v0 => ?_
  refine run_seq (run_region (ops_val (yld_assign rfl) rfl (ops_nil (fin_next rfl (run_seq (run_region (ops_val (yld_move rfl) rfl ?_)))))))
  refine ops_call (ivReduce_c l ad cap hl) rfl pf_nil (fun v _ h => by exact ⟨h.1, trivial⟩) rfl fun _ => ?_
  refine ops_val (yld_assign rfl) rfl (ops_nil (fin_next rfl (run_ret ?_)))
  exact ret1 Tryz.results184 () rfl pf_nil (fun _ _ _ => trivial)
theorem within_c (i j : Int × Int) : Fn0 Tryz.prog 143 #[ivV i, ivV j] (.bool (ivIn i j)) := by
 refine tri_of_body Tryz.func143 rfl rfl Tryz.ntmps143 rfl fun v0 => ?_
 refine run_seq (run_region (ops_box rfl rfl fun b1 => ?_))
 refine ops_box rfl rfl fun b2 => ?_
 refine ops_val (yld_assign rfl) rfl (ops_nil (fin_next rfl (run_seq (run_region (ops_val (yld_loadS 1 Tryz.isAgg175 Tryz.sizeOf175 rfl rfl rfl) rfl ?_)))))
 refine ops_val (yld_loadS 0 Tryz.isAgg175 Tryz.sizeOf175 rfl rfl rfl) rfl ?_
 refine ops_slit Tryz.runUnderlying223 Tryz.sizeOf175 Tryz.zeroValue175 rfl rfl rfl rfl rfl rfl fun b3 => ?_
 refine ok_giveR (List.flatMap ivC [i, j]) pf_here rfl ?_
 refine ops_call (ivAll_c [i, j] (some ⟨b3, 0, none⟩) 2 (by simp)) rfl pf_nil (fun v _ h => by exact ⟨h.1, trivial⟩) rfl fun _ => ?_
 refine ops_valB (yld_eql rfl rfl) rfl fun r1 hr1 => ?_
 refine ops_val (yld_move rfl) rfl ?_
 cases r1
 ·
  replace hr1 := ne_of_beq_false hr1
  refine ops_no rfl rfl rfl rfl (ops_no rfl rfl rfl rfl (ops_no rfl rfl rfl rfl (ops_no rfl rfl rfl rfl (ops_no rfl rfl rfl rfl (ops_val (yld_pick_f rfl rfl) rfl ?_)))))
  refine ops_val (yld_move rfl) rfl (ops_no rfl rfl rfl rfl (ops_no rfl rfl rfl rfl (ops_no rfl rfl rfl rfl (ops_no rfl rfl rfl rfl (ops_no rfl rfl rfl rfl (ops_val (yld_pick_f rfl rfl) rfl ?_))))))
  refine ops_val (yld_assign rfl) rfl (ops_nil (fin_next rfl (run_ret ?_)))
  exact ret1 Tryz.results143 () (get_bool rfl (by unfold ivIn; simp_all <;> omega)) pf_nil (fun _ _ _ => trivial)
 ·
  replace hr1 := eq_of_beq hr1
  refine ops_yes rfl rfl (ops_val (yld_field Tryz.runUnderlying175 rfl rfl rfl Tryz.sizeOf3) rfl ?_)
  refine ops_yes rfl rfl (ops_val (yld_load 0 Tryz.isAgg3 rfl rfl rfl) rfl ?_)
  refine ops_yes rfl rfl (ops_val (yld_field Tryz.runUnderlying175 rfl rfl rfl Tryz.sizeOf3) rfl ?_)
  refine ops_yes rfl rfl (ops_val (yld_load 1 Tryz.isAgg3 rfl rfl rfl) rfl ?_)
  refine ops_yes rfl rfl (ops_valB (yld_leq rfl rfl) rfl fun r2 hr2 => ?_)
  refine ops_val (yld_pick_t rfl rfl) rfl ?_
  refine ops_val (yld_move rfl) rfl ?_
  cases r2
  ·
   replace hr2 := of_decide_eq_false hr2
   refine ops_no rfl rfl rfl rfl (ops_no rfl rfl rfl rfl (ops_no rfl rfl rfl rfl (ops_no rfl rfl rfl rfl (ops_no rfl rfl rfl rfl (ops_val (yld_pick_f rfl rfl) rfl ?_)))))
   refine ops_val (yld_assign rfl) rfl (ops_nil (fin_next rfl (run_ret ?_)))
   exact ret1 Tryz.results143 () (get_bool rfl (by unfold ivIn; simp_all <;> omega)) pf_nil (fun _ _ _ => trivial)
  ·
   replace hr2 := of_decide_eq_true hr2
   refine ops_yes rfl rfl (ops_val (yld_field Tryz.runUnderlying175 rfl rfl rfl Tryz.sizeOf3) rfl ?_)
   refine ops_yes rfl rfl (ops_val (yld_load 1 Tryz.isAgg3 rfl rfl rfl) rfl ?_)
   refine ops_yes rfl rfl (ops_val (yld_field Tryz.runUnderlying175 rfl rfl rfl Tryz.sizeOf3) rfl ?_)
   refine ops_yes rfl rfl (ops_val (yld_load 0 Tryz.isAgg3 rfl rfl rfl) rfl ?_)
   refine ops_yes rfl rfl (ops_valB (yld_leq rfl rfl) rfl fun r3 hr3 => ?_)
   refine ops_val (yld_pick_t rfl rfl) rfl ?_
   refine ops_val (yld_assign rfl) rfl (ops_nil (fin_next rfl (run_ret ?_)))
   exact ret1 Tryz.results143 () (get_bool rfl (by unfold ivIn; simp_all <;> omega)) pf_nil (fun _ _ _ => trivial)
theorem withinOk_c (a b c d : Int) (ha : -1099511627776 ≤ a ∧ a ≤ b ∧ b ≤ 1099511627776) (hb : -1099511627776 ≤ c ∧ c ≤ d ∧ d ≤ 1099511627776) : Fn0 Tryz.prog 143 #[ivV (a, b), ivV (c, d)] (.bool (decide (c ≤ a ∧ b ≤ d))) := by
  have := within_c (a, b) (c, d)
  rw [ivIn_ok ha hb] at this
  exact this
theorem filt_step {α : Type} {p : α → Bool} {l : List α} {i : Nat} {x : α} (h : l[i]? = some x) : List.filter p (List.take (i + 1) l) = List.filter p (List.take i l) ++ (if p x then [x] else []) := by
  rw [List.take_add_one, h, Option.toList_some, List.filter_append]
  congr 1
  simp [List.filter_cons]
theorem out_c (B : EngB) (E : Emt Tryz.prog 41) (A : EngA) (pm : List (Ky × Pc)) (x : Ix) (f : Fc) (nw fm : List Fc) (Hs : Hp) (hS : E.St nw fm Hs) (hpl : ∀ k, (lat pm k).length ≤ 1000000000) (hxl : ∀ k, (lat x.above k).length ≤ 1000000000 ∧ (lat x.under k).length ≤ 1000000000) (hyl : ∀ k, (lat x.frm k).length ≤ 1000000000 ∧ (lat x.into k).length ≤ 1000000000 ∧ (lat x.ranges k).length ≤ 1000000000 ∧ (lat x.firms k).length ≤ 1000000000) (hf : -1099511627776 ≤ f.lo ∧ f.lo ≤ f.hi ∧ f.hi ≤ 1099511627776) (hq : ∀ y ∈ lat pm (Ky.mk 9 (Fc.r f) []), -1099511627776 ≤ y.lo ∧ y.lo ≤ y.hi ∧ y.hi ≤ 1099511627776) : Tri Tryz.prog 111 #[.pointer (some ⟨B.g, 0, none⟩), Fc.val f] Hs [gF B E, pF B pm A, aF B x A, uF B x A, oF B x A, iF B x A, rF B x A, sF B x A, E.ef] (fun _ : {H' : Hp // E.St (emits E.stp (outL pm f) nw) fm H'} => .tuple #[]) (fun y => y.1) (fun _ => []) := by
 refine tri_of_body Tryz.func111 rfl rfl Tryz.ntmps111 rfl fun v0 => ?_
 refine run_seq (run_region (ops_box rfl rfl fun b1 => ?_))
 refine ops_nil (fin_next rfl (run_seq ?_))
 refine run_draw' (by kernel_rfl) ?_
 refine any_sq 0 [0, 1, 2, 3, 4, 5, 6, 7, 8, 9] (by kernel_rfl) (fun _ a b => ⟨a, b⟩) ?_
 refine sq_val rfl (yld_move rfl) rfl ?_
 refine sq_val rfl (yld_nilck rfl) rfl ?_
 refine sq_val rfl (yld_field Tryz.runUnderlying94 rfl rfl rfl Tryz.sizeOf87) rfl ?_
 refine sq_val rfl (yld_loadO Tryz.isAgg87 rfl (fun v _ h => by exact h.1) rfl) rfl ?_
 refine sq_val rfl (yld_field Tryz.runUnderlying41 rfl rfl rfl Tryz.sizeOf9) rfl ?_
 refine sq_val rfl (yld_load 0 Tryz.isAgg9 rfl rfl rfl) rfl ?_
 refine sq_val rfl (yld_struct strt171 rfl rfl) rfl ?_
 refine sq_val rfl (yld_lookF (k := (Ky.mk 9 (Fc.r f) [])) (adr := A.p) keyKy Tryz.runUnderlying87 Tryz.zeroValue22 rfl rfl (fun v _ h => by exact h.2.1)) rfl ?_
 refine sq_val rfl (yld_lenS Tryz.runUnderlying22 rfl) rfl ?_
 refine sq_val rfl (yld_move rfl) rfl ?_
 refine sq_nil ?_
 refine any_done (by kernel_rfl) ?_
 refine fin_next rfl (run_block (ok_fr [(0, .pointer (some ⟨B.g, 0, none⟩)), (3, .pointer (some ⟨b1, 0, none⟩)), (13, .slice (Prod.fst (A.p (Ky.mk 9 (Fc.r f) []))) (List.length (lat pm (Ky.mk 9 (Fc.r f) []))) (Prod.snd (A.p (Ky.mk 9 (Fc.r f) [])))), (14, .int .i64 (List.length (lat pm (Ky.mk 9 (Fc.r f) [])) : Int)), (15, .int .i64 ((0 : Nat) : Int))] ⟨rfl, rfl, rfl, rfl, rfl, trivial⟩ ?_))
 refine ok_weak (H' := ((b1, .cells #[.int .i64 (Fc.kind f), str (Fc.a f), str (Fc.b f), str (Fc.r f), .int .i64 (Fc.lo f), .int .i64 (Fc.hi f)] 41 (0, 0)) :: Hs)) (Γ' := [gF B E, pF B pm A, aF B x A, uF B x A, oF B x A, iF B x A, rF B x A, sF B x A, E.ef]) (pf_takeB pf_here pf_end) (fun v _ h => by exact ⟨h.1, h.2.1, h.2.2.1, h.2.2.2.1, h.2.2.2.2.1, h.2.2.2.2.2.1, h.2.2.2.2.2.2.1, h.2.2.2.2.2.2.2.1, h.2.2.2.2.2.2.2.2.1, trivial⟩) ?_
 refine run_loop (ι := {y : Nat × Hp // y.1 ≤ List.length (lat pm (Ky.mk 9 (Fc.r f) [])) ∧ E.St (emits E.stp (List.map (fun y => fsub (Fc.a f) (Pc.c y)) (List.filter (fun y => decide (Pc.lo y ≤ Fc.lo f ∧ Fc.hi f ≤ Pc.hi y)) (List.take y.1 (lat pm (Ky.mk 9 (Fc.r f) []))))) nw) fm y.2}) (fun y => [(0, .pointer (some ⟨B.g, 0, none⟩)), (3, .pointer (some ⟨b1, 0, none⟩)), (13, .slice (Prod.fst (A.p (Ky.mk 9 (Fc.r f) []))) (List.length (lat pm (Ky.mk 9 (Fc.r f) []))) (Prod.snd (A.p (Ky.mk 9 (Fc.r f) [])))), (14, .int .i64 (List.length (lat pm (Ky.mk 9 (Fc.r f) [])) : Int)), (15, .int .i64 (y.1.1 : Int))]) (fun y => ((b1, .cells #[.int .i64 (Fc.kind f), str (Fc.a f), str (Fc.b f), str (Fc.r f), .int .i64 (Fc.lo f), .int .i64 (Fc.hi f)] 41 (0, 0)) :: y.1.2)) (fun y => [gF B E, pF B pm A, aF B x A, uF B x A, oF B x A, iF B x A, rF B x A, sF B x A, E.ef]) (fun y => List.length (lat pm (Ky.mk 9 (Fc.r f) [])) - y.1.1) ⟨((0 : Nat), Hs), by simp, by exact hS⟩ ?_
 rintro ⟨⟨i, Hs_i⟩, hi_i, hS_i⟩
 dsimp only at hi_i hS_i ⊢
 refine ok_fr [(0, .pointer (some ⟨B.g, 0, none⟩)), (3, .pointer (some ⟨b1, 0, none⟩)), (13, .slice (Prod.fst (A.p (Ky.mk 9 (Fc.r f) []))) (List.length (lat pm (Ky.mk 9 (Fc.r f) []))) (Prod.snd (A.p (Ky.mk 9 (Fc.r f) [])))), (14, .int .i64 (List.length (lat pm (Ky.mk 9 (Fc.r f) [])) : Int)), (15, .int .i64 (i : Int))] ⟨rfl, rfl, rfl, rfl, rfl, trivial⟩ ?_
 have hb_i := hpl (Ky.mk 9 (Fc.r f) [])
 refine run_seq (run_region (ops_valB (yld_lss rfl rfl) rfl fun r1 hr1 => ?_))
 refine ops_nil (fin_next rfl (run_seq ?_))
 cases r1
 ·
  replace hr1 := of_decide_eq_false hr1
  refine run_cond_f rfl (run_exit rfl (fin_end rfl ?_))
  exact end0 Tryz.results111 ⟨Hs_i, by unfold outL; rw [List.take_of_length_le (by omega)] at hS_i; exact hS_i⟩ rfl pf_lastB (fun _ _ _ => trivial)
 ·
  replace hr1 := of_decide_eq_true hr1
  have hlx1 : i < List.length (lat pm (Ky.mk 9 (Fc.r f) [])) := by omega
  obtain ⟨x1, hx1⟩ : ∃ e0, (lat pm (Ky.mk 9 (Fc.r f) []))[i]? = some e0 := ⟨_, List.getElem?_eq_getElem hlx1⟩
  have hmx1 : x1 ∈ (lat pm (Ky.mk 9 (Fc.r f) [])) := List.mem_of_getElem? hx1
  refine run_cond_t rfl (run_skip (fin_next rfl (run_seq (run_block (run_seq (run_region (ops_val (yld_indexR Tryz.runUnderlying22 Tryz.sizeOf47 rfl rfl (fun v _ h => row_adr (n := 10) Pc.cells_len (by decide) (by exact (mlF_row h.2.1 (Ky.mk 9 (Fc.r f) []))) hx1) (by omega) (by first | omega | (simp; done))) rfl ?_)))))))
  refine ops_val (yld_loadRS (ad := (Prod.fst (A.p (Ky.mk 9 (Fc.r f) [])))) (us := Pc.cells x1) Tryz.isAgg47 Tryz.sizeOf47 rfl (fun v _ h => by exact (mlF_row h.2.1 (Ky.mk 9 (Fc.r f) []))) (Pc.cells_len _) (row_cells Pc.cells_len hx1)) rfl ?_
  refine ops_alloc Tryz.zeroValue47 rfl fun b2 => ?_
  refine ops_store 0 Tryz.sizeOf47 rfl rfl rfl rfl rfl rfl ?_
  refine ops_nil (fin_next rfl (run_seq (run_region (ops_val (yld_field Tryz.runUnderlying41 rfl rfl rfl Tryz.sizeOf3) rfl ?_))))
  refine ops_val (yld_load 1 Tryz.isAgg3 rfl rfl rfl) rfl ?_
  refine ops_val (yld_field Tryz.runUnderlying41 rfl rfl rfl Tryz.sizeOf3) rfl ?_
  refine ops_val (yld_load 1 Tryz.isAgg3 rfl rfl rfl) rfl ?_
  refine ops_val (yld_struct strt175 rfl rfl) rfl ?_
  refine ops_val (yld_field Tryz.runUnderlying47 rfl rfl rfl Tryz.sizeOf3) rfl ?_
  refine ops_val (yld_load 0 Tryz.isAgg3 rfl rfl rfl) rfl ?_
  refine ops_val (yld_field Tryz.runUnderlying47 rfl rfl rfl Tryz.sizeOf3) rfl ?_
  refine ops_val (yld_load 0 Tryz.isAgg3 rfl rfl rfl) rfl ?_
  refine ops_val (yld_struct strt175 rfl rfl) rfl ?_
  refine ops_callB (withinOk_c (Fc.lo f) (Fc.hi f) (Pc.lo x1) (Pc.hi x1) hf (hq x1 hmx1)) rfl pf_nil (fun _ _ _ => by exact trivial) rfl fun r2 hr2 => ?_
  refine ops_nil (fin_next rfl ?_)
  cases r2
  ·
   replace hr2 := of_decide_eq_false hr2
   refine run_cond_f rfl (run_skip (fin_next rfl (run_region (ops_val (yld_arith rfl rfl rfl (wrap64 (by omega) (by omega))) rfl ?_))))
   refine ops_val (yld_move rfl) rfl (ops_nil (fin_inv rfl ?_))
   exact ok_again ⟨(i + 1, Hs_i), hlx1, (by rw [filt_step hx1]; first | (rw [if_pos (decide_eq_true (by assumption)), List.map_append, emits_append]; exact hS_i) | (rw [if_neg (by rw [decide_eq_false (by assumption)]; decide), List.append_nil]; exact hS_i))⟩ (by dsimp only; omega) ⟨rfl, rfl, rfl, rfl, rfl, trivial⟩ (pf_takeB (pf_cons pf_here) pf_lastB) (fun v _ h => by exact ⟨h.1, h.2.1, h.2.2.1, h.2.2.2.1, h.2.2.2.2.1, h.2.2.2.2.2.1, h.2.2.2.2.2.2.1, h.2.2.2.2.2.2.2.1, h.2.2.2.2.2.2.2.2.1, trivial⟩)
  ·
   replace hr2 := of_decide_eq_true hr2
   refine run_cond_t rfl ?_
   refine run_drawH ((b2, .cells #[.int .i64 (Pc.kind x1), str (Pc.a x1), str (Pc.b x1), str (Pc.c x1), str (Pc.r x1), str (Pc.s x1), str (Pc.t x1), .int .i64 (Pc.lo x1), .int .i64 (Pc.hi x1), .int .i64 (Pc.frm x1)] 47 (0, 0)) :: ((b1, .cells #[.int .i64 (Fc.kind f), str (Fc.a f), str (Fc.b f), str (Fc.r f), .int .i64 (Fc.lo f), .int .i64 (Fc.hi f)] 41 (0, 0)) :: [])) (by kernel_rfl) ?_
   refine any_sq 2 [0, 1, 2, 3, 4, 5, 6, 7] (by kernel_rfl) (fun _ a b => ⟨Vw.sat.sub (a.perm (pf_takeB pf_here pf_here)), b⟩) ?_
   refine sq_val rfl (yld_move rfl) rfl ?_
   refine sq_val rfl (yld_nilck rfl) rfl ?_
   refine sq_val rfl (yld_field Tryz.runUnderlying94 rfl rfl rfl Tryz.sizeOf89) rfl ?_
   refine sq_val rfl (yld_loadO Tryz.isAgg89 rfl (fun v _ h => by exact h.1) rfl) rfl ?_
   refine sq_val rfl (yld_field Tryz.runUnderlying41 rfl rfl rfl Tryz.sizeOf9) rfl ?_
   refine sq_val rfl (yld_load 1 Tryz.isAgg9 rfl rfl rfl) rfl ?_
   refine sq_val rfl (yld_field Tryz.runUnderlying47 rfl rfl rfl Tryz.sizeOf9) rfl ?_
   refine sq_val rfl (yld_load 0 Tryz.isAgg9 rfl rfl rfl) rfl ?_
   refine sq_nil ?_
   refine any_one 8 rfl (by kernel_rfl) ?_
   refine ops_call (sub_c (Fc.a f) (Pc.c x1)) rfl pf_nil (fun _ _ _ => by exact trivial) rfl fun _ => ?_
   refine ops_nil (fin_inv rfl (any_next (fun _ a b => ⟨Vw.sat.sub (a.perm (pf_takeB pf_here pf_here)), b⟩) ?_))
   refine any_one 9 rfl (by kernel_rfl) ?_
   refine ops_calld (first := []) (cap := E.caps) (E.emit (fsub (Fc.a f) (Pc.c x1)) (emits E.stp (List.map (fun y => fsub (Fc.a f) (Pc.c y)) (List.filter (fun y => decide (Pc.lo y ≤ Fc.lo f ∧ Fc.hi f ≤ Pc.hi y)) (List.take i (lat pm (Ky.mk 9 (Fc.r f) []))))) nw) fm Hs_i hS_i) rfl rfl (pf_cons pf_lastB) (fun v _ h => by exact ⟨h.2.2.2.2.2.2.2.2.1, trivial⟩) rfl fun ⟨Hs1, hS1⟩ => ?_
   dsimp only
   refine ops_nil (fin_inv rfl (any_next (fun _ a b => ⟨Vw.sat.sub (a.perm (pf_takeB (pf_app pf_here) pf_last)), b⟩) ?_))
   refine any_done (by kernel_rfl) ?_
   refine fin_next rfl (run_region (ops_val (yld_arith rfl rfl rfl (wrap64 (by omega) (by omega))) rfl ?_))
   refine ops_val (yld_move rfl) rfl (ops_nil (fin_inv rfl ?_))
   exact ok_again ⟨(i + 1, Hs1), hlx1, (by rw [filt_step hx1]; first | (rw [if_pos (decide_eq_true (by assumption)), List.map_append, emits_append]; exact hS1) | (rw [if_neg (by rw [decide_eq_false (by assumption)]; decide), List.append_nil]; exact hS1))⟩ (by dsimp only; omega) ⟨rfl, rfl, rfl, rfl, rfl, trivial⟩ (pf_takeB (pf_app (pf_cons pf_here)) pf_hereO) (fun v _ h => by exact ⟨h.1, h.2.1, h.2.2.1, h.2.2.2.1, h.2.2.2.2.1, h.2.2.2.2.2.1, h.2.2.2.2.2.2.1, h.2.2.2.2.2.2.2.1, h.2.2.2.2.2.2.2.2.1, trivial⟩)
theorem meetG_step {f : Fc} {l : List Fc} {i : Nat} {x : Fc} (h : l[i]? = some x) : meetG f (List.take (i + 1) l) = meetG f (List.take i l) ++ (if (!apart f x && decide (meet1 f x ≠ f ∧ meet1 f x ≠ x)) = true then [meet1 f x] else []) := by
  unfold meetG
  rw [filt_step h, List.map_append]
  congr 1
  split <;> simp
theorem any_step {α : Type} {p : α → Bool} {l : List α} {i : Nat} {x : α} (h : l[i]? = some x) : List.any (List.take (i + 1) l) p = (List.any (List.take i l) p || p x) := by
  rw [List.take_add_one, h, Option.toList_some, List.any_append]; simp
theorem meet_c (B : EngB) (E : Emt Tryz.prog 41) (A : EngA) (pm : List (Ky × Pc)) (x : Ix) (f : Fc) (nw fm : List Fc) (Hs : Hp) (hS : E.St nw fm Hs) (hpl : ∀ k, (lat pm k).length ≤ 1000000000) (hxl : ∀ k, (lat x.above k).length ≤ 1000000000 ∧ (lat x.under k).length ≤ 1000000000) (hyl : ∀ k, (lat x.frm k).length ≤ 1000000000 ∧ (lat x.into k).length ≤ 1000000000 ∧ (lat x.ranges k).length ≤ 1000000000 ∧ (lat x.firms k).length ≤ 1000000000) : Tri Tryz.prog 110 #[.pointer (some ⟨B.g, 0, none⟩), Fc.val f] Hs [gF B E, pF B pm A, aF B x A, uF B x A, oF B x A, iF B x A, rF B x A, sF B x A, E.ef] (fun _ : {H' : Hp // E.St (emits E.stp (meetG f (meetR x f (decide (f ∈ fm))) ++ meetE f (meetR x f (decide (f ∈ fm)))) nw) fm H'} => .tuple #[]) (fun y => y.1) (fun _ => []) := by
 refine tri_of_body Tryz.func110 rfl rfl Tryz.ntmps110 rfl fun v0 => ?_
 refine run_seq (run_region (ops_box rfl rfl fun b1 => ?_))
 refine ops_nil (fin_next rfl (run_seq (run_region (ops_val (yld_field Tryz.runUnderlying41 rfl rfl rfl Tryz.sizeOf9) rfl ?_))))
 refine ops_val (yld_load 0 Tryz.isAgg9 rfl rfl rfl) rfl ?_
 refine ops_val (yld_field Tryz.runUnderlying41 rfl rfl rfl Tryz.sizeOf9) rfl ?_
 refine ops_val (yld_load 0 Tryz.isAgg9 rfl rfl rfl) rfl ?_
 refine ops_val (yld_struct strt145 rfl rfl) rfl ?_
 refine ops_alloc Tryz.zeroValue145 rfl fun b2 => ?_
 refine ops_store 0 Tryz.sizeOf145 rfl rfl rfl rfl rfl rfl ?_
 refine ops_nil (fin_next rfl (run_seq ?_))
 refine run_draw' (by kernel_rfl) ?_
 refine any_sq 0 [0, 1, 2, 3, 4, 5, 6] (by kernel_rfl) (fun _ a b => ⟨a, b⟩) ?_
 refine sq_val rfl (yld_move rfl) rfl ?_
 refine sq_val rfl (yld_nilck rfl) rfl ?_
 refine sq_val rfl (yld_field Tryz.runUnderlying94 rfl rfl rfl Tryz.sizeOf92) rfl ?_
 refine sq_val rfl (yld_loadO Tryz.isAgg92 rfl (fun v _ h => by exact h.1) rfl) rfl ?_
 refine sq_val rfl (yld_loadS 0 Tryz.isAgg145 Tryz.sizeOf145 rfl rfl rfl) rfl ?_
 refine sq_val rfl (yld_lookF (k := ((Fc.a f), (Fc.r f))) (adr := A.s) keySpot Tryz.runUnderlying92 Tryz.zeroValue26 rfl rfl (fun v _ h => by exact h.2.2.2.2.2.2.2.1)) rfl ?_
 refine sq_val rfl (yld_assign rfl) rfl ?_
 refine sq_nil ?_
 refine any_done (by kernel_rfl) ?_
 refine fin_next rfl (run_seq (run_seq ?_))
 refine run_draw' (by kernel_rfl) ?_
 refine any_sq 0 [0, 1, 2, 3, 4, 5] (by kernel_rfl) (fun _ a b => ⟨a, b⟩) ?_
 refine sq_val rfl (yld_move rfl) rfl ?_
 refine sq_val rfl (yld_nilck rfl) rfl ?_
 refine sq_val rfl (yld_field Tryz.runUnderlying94 rfl rfl rfl Tryz.sizeOf88) rfl ?_
 refine sq_val rfl (yld_loadO Tryz.isAgg88 rfl (fun v _ h => by exact h.1) rfl) rfl ?_
 refine sq_val rfl (yld_loadS 1 Tryz.isAgg41 Tryz.sizeOf41 rfl rfl rfl) rfl ?_
 refine sq_valB rfl (yld_firm (f := f) hS keyFc Tryz.runUnderlying88 Tryz.zeroValue4 rfl rfl (pf_cons pf_lastB)) rfl fun r1 hr1 => ?_
 refine sq_nil ?_
 refine any_done (by kernel_rfl) ?_
 refine fin_next rfl ?_
 cases r1
 ·
  replace hr1 := of_decide_eq_false hr1
  refine run_cond_f rfl (run_skip (fin_next rfl (run_seq (run_region (ops_val (yld_assign rfl) rfl (ops_nil (fin_next rfl ?_)))))))
  refine run_seq (run_seq (run_region (ops_val (yld_move rfl) rfl (ops_val (yld_lenS Tryz.runUnderlying26 rfl) rfl ?_))))
  refine ops_val (yld_move rfl) rfl (ops_nil (fin_next rfl (run_block (ok_fr [(0, .pointer (some ⟨B.g, 0, none⟩)), (3, .pointer (some ⟨b1, 0, none⟩)), (6, .bool false), (35, .slice (Prod.fst (A.s ((Fc.a f), (Fc.r f)))) (List.length (lat x.firms ((Fc.a f), (Fc.r f)))) (Prod.snd (A.s ((Fc.a f), (Fc.r f))))), (36, .int .i64 (List.length (lat x.firms ((Fc.a f), (Fc.r f))) : Int)), (37, .int .i64 ((0 : Nat) : Int))] ⟨rfl, rfl, rfl, rfl, rfl, rfl, trivial⟩ ?_))))
  refine ok_weak (H' := ((b1, .cells #[.int .i64 (Fc.kind f), str (Fc.a f), str (Fc.b f), str (Fc.r f), .int .i64 (Fc.lo f), .int .i64 (Fc.hi f)] 41 (0, 0)) :: Hs)) (Γ' := [gF B E, pF B pm A, aF B x A, uF B x A, oF B x A, iF B x A, rF B x A, sF B x A, E.ef]) (pf_takeB (pf_cons pf_here) pf_lastB) (fun v _ h => by exact ⟨h.1, h.2.1, h.2.2.1, h.2.2.2.1, h.2.2.2.2.1, h.2.2.2.2.2.1, h.2.2.2.2.2.2.1, h.2.2.2.2.2.2.2.1, h.2.2.2.2.2.2.2.2.1, trivial⟩) ?_
  refine run_loop (ι := {y : Nat × Hp × Bool // y.1 ≤ List.length (lat x.firms ((Fc.a f), (Fc.r f))) ∧ E.St (emits E.stp (meetG f (List.take y.1 (lat x.firms ((Fc.a f), (Fc.r f))))) nw) fm y.2.1 ∧ y.2.2 = List.any (List.take y.1 (lat x.firms ((Fc.a f), (Fc.r f)))) (apart f)}) (fun y => [(0, .pointer (some ⟨B.g, 0, none⟩)), (3, .pointer (some ⟨b1, 0, none⟩)), (6, .bool y.1.2.2), (35, .slice (Prod.fst (A.s ((Fc.a f), (Fc.r f)))) (List.length (lat x.firms ((Fc.a f), (Fc.r f)))) (Prod.snd (A.s ((Fc.a f), (Fc.r f))))), (36, .int .i64 (List.length (lat x.firms ((Fc.a f), (Fc.r f))) : Int)), (37, .int .i64 (y.1.1 : Int))]) (fun y => ((b1, .cells #[.int .i64 (Fc.kind f), str (Fc.a f), str (Fc.b f), str (Fc.r f), .int .i64 (Fc.lo f), .int .i64 (Fc.hi f)] 41 (0, 0)) :: y.1.2.1)) (fun y => [gF B E, pF B pm A, aF B x A, uF B x A, oF B x A, iF B x A, rF B x A, sF B x A, E.ef]) (fun y => List.length (lat x.firms ((Fc.a f), (Fc.r f))) - y.1.1) ⟨((0 : Nat), Hs, false), by simp, by exact hS, by simp⟩ ?_
  rintro ⟨⟨i, Hs_i, e⟩, hi_i, hS_i, he⟩
  dsimp only at hi_i hS_i he ⊢
  refine ok_fr [(0, .pointer (some ⟨B.g, 0, none⟩)), (3, .pointer (some ⟨b1, 0, none⟩)), (6, .bool e), (35, .slice (Prod.fst (A.s ((Fc.a f), (Fc.r f)))) (List.length (lat x.firms ((Fc.a f), (Fc.r f)))) (Prod.snd (A.s ((Fc.a f), (Fc.r f))))), (36, .int .i64 (List.length (lat x.firms ((Fc.a f), (Fc.r f))) : Int)), (37, .int .i64 (i : Int))] ⟨rfl, rfl, rfl, rfl, rfl, rfl, trivial⟩ ?_
  have hb_i := (hyl ((Fc.a f), (Fc.r f))).2.2.2
  refine run_seq (run_region (ops_valB (yld_lss rfl rfl) rfl fun r2 hr2 => ?_))
  refine ops_nil (fin_next rfl (run_seq ?_))
  cases r2
  ·
   replace hr2 := of_decide_eq_false hr2
   refine run_cond_f rfl (run_exit rfl (fin_next rfl (run_seq (run_region (ops_val (yld_move rfl) rfl (ops_nil (fin_next rfl ?_)))))))
   cases e
   ·
    refine run_cond_f rfl (run_skip (fin_end rfl ?_))
    exact end0 Tryz.results110 ⟨Hs_i, by have hL : (meetR x f (decide (f ∈ fm))) = (lat x.firms ((Fc.a f), (Fc.r f))) := (by unfold meetR; rw [decide_eq_false (by assumption)] <;> rfl); rw [hL, emits_append]; have e9 : List.take i (lat x.firms ((Fc.a f), (Fc.r f))) = (lat x.firms ((Fc.a f), (Fc.r f))) := List.take_of_length_le (by omega); rw [e9] at he hS_i; unfold meetE; rw [if_neg (by rw [← he]; decide)]; exact hS_i⟩ rfl pf_lastB (fun _ _ _ => trivial)
   ·
    refine run_cond_t rfl ?_
    refine run_drawH ((b1, .cells #[.int .i64 (Fc.kind f), str (Fc.a f), str (Fc.b f), str (Fc.r f), .int .i64 (Fc.lo f), .int .i64 (Fc.hi f)] 41 (0, 0)) :: []) (by kernel_rfl) ?_
    refine any_sq 2 [0, 1, 2, 3, 4, 5] (by kernel_rfl) (fun _ a b => ⟨Vw.sat.sub (a.perm pf_here), b⟩) ?_
    refine sq_val rfl (yld_move rfl) rfl ?_
    refine sq_val rfl (yld_nilck rfl) rfl ?_
    refine sq_val rfl (yld_field Tryz.runUnderlying94 rfl rfl rfl Tryz.sizeOf89) rfl ?_
    refine sq_val rfl (yld_loadO Tryz.isAgg89 rfl (fun v _ h => by exact h.1) rfl) rfl ?_
    refine sq_val rfl (yld_field Tryz.runUnderlying41 rfl rfl rfl Tryz.sizeOf9) rfl ?_
    refine sq_val rfl (yld_load 0 Tryz.isAgg9 rfl rfl rfl) rfl ?_
    refine sq_nil ?_
    refine any_one 6 rfl (by kernel_rfl) ?_
    refine ops_call (sub_c (Fc.a f) [33]) rfl pf_nil (fun _ _ _ => by exact trivial) rfl fun _ => ?_
    refine ops_nil (fin_inv rfl (any_next (fun _ a b => ⟨Vw.sat.sub (a.perm pf_here), b⟩) ?_))
    refine any_one 7 rfl (by kernel_rfl) ?_
    refine ops_calld (first := []) (cap := E.caps) (E.emit (fsub (Fc.a f) [33]) (emits E.stp (meetG f (List.take i (lat x.firms ((Fc.a f), (Fc.r f))))) nw) fm Hs_i hS_i) rfl rfl pf_lastB (fun v _ h => by exact ⟨h.2.2.2.2.2.2.2.2.1, trivial⟩) rfl fun ⟨Hs1, hS1⟩ => ?_
    dsimp only
    refine ops_nil (fin_inv rfl (any_next (fun _ a b => ⟨Vw.sat.sub (a.perm pf_last), b⟩) ?_))
    refine any_done (by kernel_rfl) ?_
    refine fin_end rfl ?_
    exact end0 Tryz.results110 ⟨Hs1, by have hL : (meetR x f (decide (f ∈ fm))) = (lat x.firms ((Fc.a f), (Fc.r f))) := (by unfold meetR; rw [decide_eq_false (by assumption)] <;> rfl); rw [hL, emits_append]; have e9 : List.take i (lat x.firms ((Fc.a f), (Fc.r f))) = (lat x.firms ((Fc.a f), (Fc.r f))) := List.take_of_length_le (by omega); rw [e9] at he hS1; unfold meetE; rw [if_pos he.symm]; exact hS1⟩ rfl pf_hereO (fun _ _ _ => trivial)
  ·
   replace hr2 := of_decide_eq_true hr2
   have hlx1 : i < List.length (lat x.firms ((Fc.a f), (Fc.r f))) := by omega
   obtain ⟨x1, hx1⟩ : ∃ e0, (lat x.firms ((Fc.a f), (Fc.r f)))[i]? = some e0 := ⟨_, List.getElem?_eq_getElem hlx1⟩
   have hmx1 : x1 ∈ (lat x.firms ((Fc.a f), (Fc.r f))) := List.mem_of_getElem? hx1
   refine run_cond_t rfl (run_skip (fin_next rfl (run_seq (run_block (run_seq (run_region (ops_val (yld_indexR Tryz.runUnderlying26 Tryz.sizeOf41 rfl rfl (fun v _ h => row_adr (n := 6) Fc.cells_len (by decide) (by exact (mlF_row h.2.2.2.2.2.2.2.1 ((Fc.a f), (Fc.r f)))) hx1) (by omega) (by first | omega | (simp; done))) rfl ?_)))))))
   refine ops_val (yld_loadRS (ad := (Prod.fst (A.s ((Fc.a f), (Fc.r f))))) (us := Fc.cells x1) Tryz.isAgg41 Tryz.sizeOf41 rfl (fun v _ h => by exact (mlF_row h.2.2.2.2.2.2.2.1 ((Fc.a f), (Fc.r f)))) (Fc.cells_len _) (row_cells Fc.cells_len hx1)) rfl ?_
   refine ops_alloc Tryz.zeroValue41 rfl fun b3 => ?_
   refine ops_store 0 Tryz.sizeOf41 rfl rfl rfl rfl rfl rfl ?_
   refine ops_nil (fin_next rfl (run_seq ?_))
   refine run_draw' (by kernel_rfl) ?_
   refine any_sq 0 [0, 1, 2, 3, 4, 5, 6, 7, 8, 9, 10, 11] (by kernel_rfl) (fun _ a b => ⟨a, b⟩) ?_
   refine sq_val rfl (yld_field Tryz.runUnderlying41 rfl rfl rfl Tryz.sizeOf3) rfl ?_
   refine sq_val rfl (yld_load 1 Tryz.isAgg3 rfl rfl rfl) rfl ?_
   refine sq_val rfl (yld_field Tryz.runUnderlying41 rfl rfl rfl Tryz.sizeOf3) rfl ?_
   refine sq_val rfl (yld_load 0 Tryz.isAgg3 rfl rfl rfl) rfl ?_
   refine sq_val rfl (yld_maxI rfl rfl) rfl ?_
   refine sq_val rfl (yld_field Tryz.runUnderlying41 rfl rfl rfl Tryz.sizeOf3) rfl ?_
   refine sq_val rfl (yld_load 1 Tryz.isAgg3 rfl rfl rfl) rfl ?_
   refine sq_val rfl (yld_field Tryz.runUnderlying41 rfl rfl rfl Tryz.sizeOf3) rfl ?_
   refine sq_val rfl (yld_load 0 Tryz.isAgg3 rfl rfl rfl) rfl ?_
   refine sq_val rfl (yld_minI rfl rfl) rfl ?_
   refine sq_val rfl (yld_assign rfl) rfl ?_
   refine sq_val rfl (yld_assign rfl) rfl ?_
   refine sq_nil ?_
   refine any_done (by kernel_rfl) ?_
   refine fin_next rfl (run_seq (run_region (ops_val (yld_move rfl) rfl (ops_val (yld_move rfl) rfl (ops_valB (yld_gtr rfl rfl) rfl fun r3 hr3 => ?_)))))
   refine ops_nil (fin_next rfl ?_)
   cases r3
   ·
    replace hr3 := of_decide_eq_false hr3
    refine run_cond_f rfl (run_seq (run_region (ops_val (yld_field Tryz.runUnderlying41 rfl rfl rfl Tryz.sizeOf9) rfl ?_)))
    refine ops_val (yld_load 1 Tryz.isAgg9 rfl rfl rfl) rfl ?_
    refine ops_val (yld_field Tryz.runUnderlying41 rfl rfl rfl Tryz.sizeOf9) rfl ?_
    refine ops_val (yld_load 1 Tryz.isAgg9 rfl rfl rfl) rfl ?_
    refine ops_val (yld_move rfl) rfl (ops_val (yld_move rfl) rfl (ops_call (span_c (Fc.a f) (Fc.r f) (max (Fc.lo f) (Fc.lo x1)) (min (Fc.hi f) (Fc.hi x1))) rfl pf_nil (fun _ _ _ => by exact trivial) rfl fun _ => ?_))
    refine ops_alloc Tryz.zeroValue41 rfl fun b4 => ?_
    refine ops_store 0 Tryz.sizeOf41 rfl rfl rfl rfl rfl rfl ?_
    refine ops_nil (fin_next rfl (run_seq (run_region (ops_val (yld_loadS 0 Tryz.isAgg41 Tryz.sizeOf41 rfl rfl rfl) rfl ?_))))
    refine ops_val (yld_loadS 2 Tryz.isAgg41 Tryz.sizeOf41 rfl rfl rfl) rfl ?_
    refine ops_valB (yld_neqFc (p := (fspan (Fc.a f) (Fc.r f) (max (Fc.lo f) (Fc.lo x1)) (min (Fc.hi f) (Fc.hi x1)))) (q := f) rfl rfl) rfl fun r4 hr4 => ?_
    refine ops_val (yld_move rfl) rfl ?_
    cases r4
    ·
     replace hr4 := of_decide_eq_false hr4
     refine ops_no rfl rfl rfl rfl (ops_no rfl rfl rfl rfl (ops_no rfl rfl rfl rfl (ops_val (yld_pick_f rfl rfl) rfl ?_)))
     refine ops_nil (fin_next rfl (run_cond_f rfl (run_skip (fin_next rfl (run_region (ops_val (yld_arith rfl rfl rfl (wrap64 (by omega) (by omega))) rfl ?_))))))
     refine ops_val (yld_move rfl) rfl (ops_nil (fin_inv rfl ?_))
     exact ok_again ⟨(i + 1, Hs_i, e), hlx1, (by rw [meetG_step hx1]; first | (rw [if_pos (by rw [Bool.and_eq_true]; exact ⟨by simp only [apart]; rw [decide_eq_false (by omega)]; rfl, decide_eq_true ⟨by assumption, by assumption⟩⟩), emits_append]; exact hS_i) | (rw [if_neg (by rw [Bool.and_eq_true]; intro q; first | exact absurd (of_decide_eq_true q.2).1 (by assumption) | exact absurd (of_decide_eq_true q.2).2 (by assumption) | (have q1 := q.1; simp only [apart] at q1; rw [decide_eq_true (by omega)] at q1; cases q1)), List.append_nil]; exact hS_i)), by rw [any_step hx1, ← he]; simp only [apart]; rw [decide_eq_false (by omega)]; simp⟩ (by dsimp only; omega) ⟨rfl, rfl, rfl, rfl, rfl, rfl, trivial⟩ (pf_takeB (pf_cons (pf_cons pf_here)) (pf_cons pf_lastB)) (fun v _ h => by exact ⟨h.1, h.2.1, h.2.2.1, h.2.2.2.1, h.2.2.2.2.1, h.2.2.2.2.2.1, h.2.2.2.2.2.2.1, h.2.2.2.2.2.2.2.1, h.2.2.2.2.2.2.2.2.1, trivial⟩)
    ·
     replace hr4 := of_decide_eq_true hr4
     refine ops_yes rfl rfl (ops_val (yld_loadS 0 Tryz.isAgg41 Tryz.sizeOf41 rfl rfl rfl) rfl ?_)
     refine ops_yes rfl rfl (ops_val (yld_loadS 1 Tryz.isAgg41 Tryz.sizeOf41 rfl rfl rfl) rfl ?_)
     refine ops_yes rfl rfl (ops_valB (yld_neqFc (p := (fspan (Fc.a f) (Fc.r f) (max (Fc.lo f) (Fc.lo x1)) (min (Fc.hi f) (Fc.hi x1)))) (q := x1) rfl rfl) rfl fun r5 hr5 => ?_)
     refine ops_val (yld_pick_t rfl rfl) rfl ?_
     refine ops_nil (fin_next rfl ?_)
     cases r5
     ·
      replace hr5 := of_decide_eq_false hr5
      refine run_cond_f rfl (run_skip (fin_next rfl (run_region (ops_val (yld_arith rfl rfl rfl (wrap64 (by omega) (by omega))) rfl ?_))))
      refine ops_val (yld_move rfl) rfl (ops_nil (fin_inv rfl ?_))
      exact ok_again ⟨(i + 1, Hs_i, e), hlx1, (by rw [meetG_step hx1]; first | (rw [if_pos (by rw [Bool.and_eq_true]; exact ⟨by simp only [apart]; rw [decide_eq_false (by omega)]; rfl, decide_eq_true ⟨by assumption, by assumption⟩⟩), emits_append]; exact hS_i) | (rw [if_neg (by rw [Bool.and_eq_true]; intro q; first | exact absurd (of_decide_eq_true q.2).1 (by assumption) | exact absurd (of_decide_eq_true q.2).2 (by assumption) | (have q1 := q.1; simp only [apart] at q1; rw [decide_eq_true (by omega)] at q1; cases q1)), List.append_nil]; exact hS_i)), by rw [any_step hx1, ← he]; simp only [apart]; rw [decide_eq_false (by omega)]; simp⟩ (by dsimp only; omega) ⟨rfl, rfl, rfl, rfl, rfl, rfl, trivial⟩ (pf_takeB (pf_cons (pf_cons pf_here)) (pf_cons pf_lastB)) (fun v _ h => by exact ⟨h.1, h.2.1, h.2.2.1, h.2.2.2.1, h.2.2.2.2.1, h.2.2.2.2.2.1, h.2.2.2.2.2.2.1, h.2.2.2.2.2.2.2.1, h.2.2.2.2.2.2.2.2.1, trivial⟩)
     ·
      replace hr5 := of_decide_eq_true hr5
      refine run_cond_t rfl ?_
      refine run_drawH ((b4, .cells #[.int .i64 (Fc.kind (fspan (Fc.a f) (Fc.r f) (max (Fc.lo f) (Fc.lo x1)) (min (Fc.hi f) (Fc.hi x1)))), str (Fc.a (fspan (Fc.a f) (Fc.r f) (max (Fc.lo f) (Fc.lo x1)) (min (Fc.hi f) (Fc.hi x1)))), str (Fc.b (fspan (Fc.a f) (Fc.r f) (max (Fc.lo f) (Fc.lo x1)) (min (Fc.hi f) (Fc.hi x1)))), str (Fc.r (fspan (Fc.a f) (Fc.r f) (max (Fc.lo f) (Fc.lo x1)) (min (Fc.hi f) (Fc.hi x1)))), .int .i64 (Fc.lo (fspan (Fc.a f) (Fc.r f) (max (Fc.lo f) (Fc.lo x1)) (min (Fc.hi f) (Fc.hi x1)))), .int .i64 (Fc.hi (fspan (Fc.a f) (Fc.r f) (max (Fc.lo f) (Fc.lo x1)) (min (Fc.hi f) (Fc.hi x1))))] 41 (0, 0)) :: ((b3, .cells #[.int .i64 (Fc.kind x1), str (Fc.a x1), str (Fc.b x1), str (Fc.r x1), .int .i64 (Fc.lo x1), .int .i64 (Fc.hi x1)] 41 (0, 0)) :: ((b1, .cells #[.int .i64 (Fc.kind f), str (Fc.a f), str (Fc.b f), str (Fc.r f), .int .i64 (Fc.lo f), .int .i64 (Fc.hi f)] 41 (0, 0)) :: []))) (by kernel_rfl) ?_
      refine any_sq 1 [0, 1, 2, 3, 4] (by kernel_rfl) (fun _ a b => ⟨Vw.sat.sub (a.perm (pf_takeB pf_here (pf_takeB pf_here pf_here))), b⟩) ?_
      refine sq_val rfl (yld_move rfl) rfl ?_
      refine sq_val rfl (yld_nilck rfl) rfl ?_
      refine sq_val rfl (yld_field Tryz.runUnderlying94 rfl rfl rfl Tryz.sizeOf89) rfl ?_
      refine sq_val rfl (yld_loadO Tryz.isAgg89 rfl (fun v _ h => by exact h.1) rfl) rfl ?_
      refine sq_val rfl (yld_loadS 0 Tryz.isAgg41 Tryz.sizeOf41 rfl rfl rfl) rfl ?_
      refine sq_nil ?_
      refine any_one 5 rfl (by kernel_rfl) ?_
      refine ops_calld (first := []) (cap := E.caps) (E.emit (fspan (Fc.a f) (Fc.r f) (max (Fc.lo f) (Fc.lo x1)) (min (Fc.hi f) (Fc.hi x1))) (emits E.stp (meetG f (List.take i (lat x.firms ((Fc.a f), (Fc.r f))))) nw) fm Hs_i hS_i) rfl rfl (pf_cons (pf_cons pf_lastB)) (fun v _ h => by exact ⟨h.2.2.2.2.2.2.2.2.1, trivial⟩) rfl fun ⟨Hs2, hS2⟩ => ?_
      dsimp only
      refine ops_nil (fin_inv rfl (any_next (fun _ a b => ⟨Vw.sat.sub (a.perm (pf_takeB (pf_app pf_here) (pf_takeB (pf_app pf_here) pf_last))), b⟩) ?_))
      refine any_done (by kernel_rfl) ?_
      refine fin_next rfl (run_region (ops_val (yld_arith rfl rfl rfl (wrap64 (by omega) (by omega))) rfl ?_))
      refine ops_val (yld_move rfl) rfl (ops_nil (fin_inv rfl ?_))
      exact ok_again ⟨(i + 1, Hs2, e), hlx1, (by rw [meetG_step hx1]; first | (rw [if_pos (by rw [Bool.and_eq_true]; exact ⟨by simp only [apart]; rw [decide_eq_false (by omega)]; rfl, decide_eq_true ⟨by assumption, by assumption⟩⟩), emits_append]; exact hS2) | (rw [if_neg (by rw [Bool.and_eq_true]; intro q; first | exact absurd (of_decide_eq_true q.2).1 (by assumption) | exact absurd (of_decide_eq_true q.2).2 (by assumption) | (have q1 := q.1; simp only [apart] at q1; rw [decide_eq_true (by omega)] at q1; cases q1)), List.append_nil]; exact hS2)), by rw [any_step hx1, ← he]; simp only [apart]; rw [decide_eq_false (by omega)]; simp⟩ (by dsimp only; omega) ⟨rfl, rfl, rfl, rfl, rfl, rfl, trivial⟩ (pf_takeB (pf_app (pf_cons (pf_cons pf_here))) pf_hereO) (fun v _ h => by exact ⟨h.1, h.2.1, h.2.2.1, h.2.2.2.1, h.2.2.2.2.1, h.2.2.2.2.2.1, h.2.2.2.2.2.2.1, h.2.2.2.2.2.2.2.1, h.2.2.2.2.2.2.2.2.1, trivial⟩)
   ·
    replace hr3 := of_decide_eq_true hr3
    refine run_cond_t rfl (run_region (ops_val (yld_assign rfl) rfl (ops_nil (fin_next rfl (run_region (ops_val (yld_arith rfl rfl rfl (wrap64 (by omega) (by omega))) rfl ?_))))))
    refine ops_val (yld_move rfl) rfl (ops_nil (fin_inv rfl ?_))
    exact ok_again ⟨(i + 1, Hs_i, true), hlx1, (by rw [meetG_step hx1]; first | (rw [if_pos (by rw [Bool.and_eq_true]; exact ⟨by simp only [apart]; rw [decide_eq_false (by omega)]; rfl, decide_eq_true ⟨by assumption, by assumption⟩⟩), emits_append]; exact hS_i) | (rw [if_neg (by rw [Bool.and_eq_true]; intro q; first | exact absurd (of_decide_eq_true q.2).1 (by assumption) | exact absurd (of_decide_eq_true q.2).2 (by assumption) | (have q1 := q.1; simp only [apart] at q1; rw [decide_eq_true (by omega)] at q1; cases q1)), List.append_nil]; exact hS_i)), by rw [any_step hx1, ← he]; simp only [apart]; rw [decide_eq_true (by omega)]; simp⟩ (by dsimp only; omega) ⟨rfl, rfl, rfl, rfl, rfl, rfl, trivial⟩ (pf_takeB (pf_cons pf_here) pf_lastB) (fun v _ h => by exact ⟨h.1, h.2.1, h.2.2.1, h.2.2.2.1, h.2.2.2.2.1, h.2.2.2.2.2.1, h.2.2.2.2.2.2.1, h.2.2.2.2.2.2.2.1, h.2.2.2.2.2.2.2.2.1, trivial⟩)
 ·
  replace hr1 := of_decide_eq_true hr1
  refine run_cond_t rfl ?_
  refine run_draw' (by kernel_rfl) ?_
  refine any_sq 0 [0, 1, 2, 3, 4, 5, 6] (by kernel_rfl) (fun _ a b => ⟨a, b⟩) ?_
  refine sq_val rfl (yld_move rfl) rfl ?_
  refine sq_val rfl (yld_nilck rfl) rfl ?_
  refine sq_val rfl (yld_field Tryz.runUnderlying94 rfl rfl rfl Tryz.sizeOf92) rfl ?_
  refine sq_val rfl (yld_loadO Tryz.isAgg92 rfl (fun v _ h => by exact h.1) rfl) rfl ?_
  refine sq_val rfl (yld_loadS 0 Tryz.isAgg145 Tryz.sizeOf145 rfl rfl rfl) rfl ?_
  refine sq_val rfl (yld_lookF (k := ((Fc.a f), (Fc.r f))) (adr := A.r) keySpot Tryz.runUnderlying92 Tryz.zeroValue26 rfl rfl (fun v _ h => by exact h.2.2.2.2.2.2.1)) rfl ?_
  refine sq_val rfl (yld_assign rfl) rfl ?_
  refine sq_nil ?_
  refine any_done (by kernel_rfl) ?_
  refine fin_next rfl (run_seq (run_region (ops_val (yld_assign rfl) rfl (ops_nil (fin_next rfl (run_seq (run_seq ?_)))))))
  refine run_region (ops_val (yld_move rfl) rfl (ops_val (yld_lenS Tryz.runUnderlying26 rfl) rfl ?_))
  refine ops_val (yld_move rfl) rfl (ops_nil (fin_next rfl (run_block (ok_fr [(0, .pointer (some ⟨B.g, 0, none⟩)), (3, .pointer (some ⟨b1, 0, none⟩)), (6, .bool false), (35, .slice (Prod.fst (A.r ((Fc.a f), (Fc.r f)))) (List.length (lat x.ranges ((Fc.a f), (Fc.r f)))) (Prod.snd (A.r ((Fc.a f), (Fc.r f))))), (36, .int .i64 (List.length (lat x.ranges ((Fc.a f), (Fc.r f))) : Int)), (37, .int .i64 ((0 : Nat) : Int))] ⟨rfl, rfl, rfl, rfl, rfl, rfl, trivial⟩ ?_))))
  refine ok_weak (H' := ((b1, .cells #[.int .i64 (Fc.kind f), str (Fc.a f), str (Fc.b f), str (Fc.r f), .int .i64 (Fc.lo f), .int .i64 (Fc.hi f)] 41 (0, 0)) :: Hs)) (Γ' := [gF B E, pF B pm A, aF B x A, uF B x A, oF B x A, iF B x A, rF B x A, sF B x A, E.ef]) (pf_takeB (pf_cons pf_here) pf_lastB) (fun v _ h => by exact ⟨h.1, h.2.1, h.2.2.1, h.2.2.2.1, h.2.2.2.2.1, h.2.2.2.2.2.1, h.2.2.2.2.2.2.1, h.2.2.2.2.2.2.2.1, h.2.2.2.2.2.2.2.2.1, trivial⟩) ?_
  refine run_loop (ι := {y : Nat × Hp × Bool // y.1 ≤ List.length (lat x.ranges ((Fc.a f), (Fc.r f))) ∧ E.St (emits E.stp (meetG f (List.take y.1 (lat x.ranges ((Fc.a f), (Fc.r f))))) nw) fm y.2.1 ∧ y.2.2 = List.any (List.take y.1 (lat x.ranges ((Fc.a f), (Fc.r f)))) (apart f)}) (fun y => [(0, .pointer (some ⟨B.g, 0, none⟩)), (3, .pointer (some ⟨b1, 0, none⟩)), (6, .bool y.1.2.2), (35, .slice (Prod.fst (A.r ((Fc.a f), (Fc.r f)))) (List.length (lat x.ranges ((Fc.a f), (Fc.r f)))) (Prod.snd (A.r ((Fc.a f), (Fc.r f))))), (36, .int .i64 (List.length (lat x.ranges ((Fc.a f), (Fc.r f))) : Int)), (37, .int .i64 (y.1.1 : Int))]) (fun y => ((b1, .cells #[.int .i64 (Fc.kind f), str (Fc.a f), str (Fc.b f), str (Fc.r f), .int .i64 (Fc.lo f), .int .i64 (Fc.hi f)] 41 (0, 0)) :: y.1.2.1)) (fun y => [gF B E, pF B pm A, aF B x A, uF B x A, oF B x A, iF B x A, rF B x A, sF B x A, E.ef]) (fun y => List.length (lat x.ranges ((Fc.a f), (Fc.r f))) - y.1.1) ⟨((0 : Nat), Hs, false), by simp, by exact hS, by simp⟩ ?_
  rintro ⟨⟨i, Hs_i, e⟩, hi_i, hS_i, he⟩
  dsimp only at hi_i hS_i he ⊢
  refine ok_fr [(0, .pointer (some ⟨B.g, 0, none⟩)), (3, .pointer (some ⟨b1, 0, none⟩)), (6, .bool e), (35, .slice (Prod.fst (A.r ((Fc.a f), (Fc.r f)))) (List.length (lat x.ranges ((Fc.a f), (Fc.r f)))) (Prod.snd (A.r ((Fc.a f), (Fc.r f))))), (36, .int .i64 (List.length (lat x.ranges ((Fc.a f), (Fc.r f))) : Int)), (37, .int .i64 (i : Int))] ⟨rfl, rfl, rfl, rfl, rfl, rfl, trivial⟩ ?_
  have hb_i := (hyl ((Fc.a f), (Fc.r f))).2.2.1
  refine run_seq (run_region (ops_valB (yld_lss rfl rfl) rfl fun r6 hr6 => ?_))
  refine ops_nil (fin_next rfl (run_seq ?_))
  cases r6
  ·
   replace hr6 := of_decide_eq_false hr6
   refine run_cond_f rfl (run_exit rfl (fin_next rfl (run_seq (run_region (ops_val (yld_move rfl) rfl (ops_nil (fin_next rfl ?_)))))))
   cases e
   ·
    refine run_cond_f rfl (run_skip (fin_end rfl ?_))
    exact end0 Tryz.results110 ⟨Hs_i, by have hL : (meetR x f (decide (f ∈ fm))) = (lat x.ranges ((Fc.a f), (Fc.r f))) := (by unfold meetR; rw [decide_eq_true (by assumption)] <;> rfl); rw [hL, emits_append]; have e9 : List.take i (lat x.ranges ((Fc.a f), (Fc.r f))) = (lat x.ranges ((Fc.a f), (Fc.r f))) := List.take_of_length_le (by omega); rw [e9] at he hS_i; unfold meetE; rw [if_neg (by rw [← he]; decide)]; exact hS_i⟩ rfl pf_lastB (fun _ _ _ => trivial)
   ·
    refine run_cond_t rfl ?_
    refine run_drawH ((b1, .cells #[.int .i64 (Fc.kind f), str (Fc.a f), str (Fc.b f), str (Fc.r f), .int .i64 (Fc.lo f), .int .i64 (Fc.hi f)] 41 (0, 0)) :: []) (by kernel_rfl) ?_
    refine any_sq 2 [0, 1, 2, 3, 4, 5] (by kernel_rfl) (fun _ a b => ⟨Vw.sat.sub (a.perm pf_here), b⟩) ?_
    refine sq_val rfl (yld_move rfl) rfl ?_
    refine sq_val rfl (yld_nilck rfl) rfl ?_
    refine sq_val rfl (yld_field Tryz.runUnderlying94 rfl rfl rfl Tryz.sizeOf89) rfl ?_
    refine sq_val rfl (yld_loadO Tryz.isAgg89 rfl (fun v _ h => by exact h.1) rfl) rfl ?_
    refine sq_val rfl (yld_field Tryz.runUnderlying41 rfl rfl rfl Tryz.sizeOf9) rfl ?_
    refine sq_val rfl (yld_load 0 Tryz.isAgg9 rfl rfl rfl) rfl ?_
    refine sq_nil ?_
    refine any_one 6 rfl (by kernel_rfl) ?_
    refine ops_call (sub_c (Fc.a f) [33]) rfl pf_nil (fun _ _ _ => by exact trivial) rfl fun _ => ?_
    refine ops_nil (fin_inv rfl (any_next (fun _ a b => ⟨Vw.sat.sub (a.perm pf_here), b⟩) ?_))
    refine any_one 7 rfl (by kernel_rfl) ?_
    refine ops_calld (first := []) (cap := E.caps) (E.emit (fsub (Fc.a f) [33]) (emits E.stp (meetG f (List.take i (lat x.ranges ((Fc.a f), (Fc.r f))))) nw) fm Hs_i hS_i) rfl rfl pf_lastB (fun v _ h => by exact ⟨h.2.2.2.2.2.2.2.2.1, trivial⟩) rfl fun ⟨Hs3, hS3⟩ => ?_
    dsimp only
    refine ops_nil (fin_inv rfl (any_next (fun _ a b => ⟨Vw.sat.sub (a.perm pf_last), b⟩) ?_))
    refine any_done (by kernel_rfl) ?_
    refine fin_end rfl ?_
    exact end0 Tryz.results110 ⟨Hs3, by have hL : (meetR x f (decide (f ∈ fm))) = (lat x.ranges ((Fc.a f), (Fc.r f))) := (by unfold meetR; rw [decide_eq_true (by assumption)] <;> rfl); rw [hL, emits_append]; have e9 : List.take i (lat x.ranges ((Fc.a f), (Fc.r f))) = (lat x.ranges ((Fc.a f), (Fc.r f))) := List.take_of_length_le (by omega); rw [e9] at he hS3; unfold meetE; rw [if_pos he.symm]; exact hS3⟩ rfl pf_hereO (fun _ _ _ => trivial)
  ·
   replace hr6 := of_decide_eq_true hr6
   have hlx1 : i < List.length (lat x.ranges ((Fc.a f), (Fc.r f))) := by omega
   obtain ⟨x1, hx1⟩ : ∃ e0, (lat x.ranges ((Fc.a f), (Fc.r f)))[i]? = some e0 := ⟨_, List.getElem?_eq_getElem hlx1⟩
   have hmx1 : x1 ∈ (lat x.ranges ((Fc.a f), (Fc.r f))) := List.mem_of_getElem? hx1
   refine run_cond_t rfl (run_skip (fin_next rfl (run_seq (run_block (run_seq (run_region (ops_val (yld_indexR Tryz.runUnderlying26 Tryz.sizeOf41 rfl rfl (fun v _ h => row_adr (n := 6) Fc.cells_len (by decide) (by exact (mlF_row h.2.2.2.2.2.2.1 ((Fc.a f), (Fc.r f)))) hx1) (by omega) (by first | omega | (simp; done))) rfl ?_)))))))
   refine ops_val (yld_loadRS (ad := (Prod.fst (A.r ((Fc.a f), (Fc.r f))))) (us := Fc.cells x1) Tryz.isAgg41 Tryz.sizeOf41 rfl (fun v _ h => by exact (mlF_row h.2.2.2.2.2.2.1 ((Fc.a f), (Fc.r f)))) (Fc.cells_len _) (row_cells Fc.cells_len hx1)) rfl ?_
   refine ops_alloc Tryz.zeroValue41 rfl fun b5 => ?_
   refine ops_store 0 Tryz.sizeOf41 rfl rfl rfl rfl rfl rfl ?_
   refine ops_nil (fin_next rfl (run_seq ?_))
   refine run_draw' (by kernel_rfl) ?_
   refine any_sq 0 [0, 1, 2, 3, 4, 5, 6, 7, 8, 9, 10, 11] (by kernel_rfl) (fun _ a b => ⟨a, b⟩) ?_
   refine sq_val rfl (yld_field Tryz.runUnderlying41 rfl rfl rfl Tryz.sizeOf3) rfl ?_
   refine sq_val rfl (yld_load 1 Tryz.isAgg3 rfl rfl rfl) rfl ?_
   refine sq_val rfl (yld_field Tryz.runUnderlying41 rfl rfl rfl Tryz.sizeOf3) rfl ?_
   refine sq_val rfl (yld_load 0 Tryz.isAgg3 rfl rfl rfl) rfl ?_
   refine sq_val rfl (yld_maxI rfl rfl) rfl ?_
   refine sq_val rfl (yld_field Tryz.runUnderlying41 rfl rfl rfl Tryz.sizeOf3) rfl ?_
   refine sq_val rfl (yld_load 1 Tryz.isAgg3 rfl rfl rfl) rfl ?_
   refine sq_val rfl (yld_field Tryz.runUnderlying41 rfl rfl rfl Tryz.sizeOf3) rfl ?_
   refine sq_val rfl (yld_load 0 Tryz.isAgg3 rfl rfl rfl) rfl ?_
   refine sq_val rfl (yld_minI rfl rfl) rfl ?_
   refine sq_val rfl (yld_assign rfl) rfl ?_
   refine sq_val rfl (yld_assign rfl) rfl ?_
   refine sq_nil ?_
   refine any_done (by kernel_rfl) ?_
   refine fin_next rfl (run_seq (run_region (ops_val (yld_move rfl) rfl (ops_val (yld_move rfl) rfl (ops_valB (yld_gtr rfl rfl) rfl fun r7 hr7 => ?_)))))
   refine ops_nil (fin_next rfl ?_)
   cases r7
   ·
    replace hr7 := of_decide_eq_false hr7
    refine run_cond_f rfl (run_seq (run_region (ops_val (yld_field Tryz.runUnderlying41 rfl rfl rfl Tryz.sizeOf9) rfl ?_)))
    refine ops_val (yld_load 1 Tryz.isAgg9 rfl rfl rfl) rfl ?_
    refine ops_val (yld_field Tryz.runUnderlying41 rfl rfl rfl Tryz.sizeOf9) rfl ?_
    refine ops_val (yld_load 1 Tryz.isAgg9 rfl rfl rfl) rfl ?_
    refine ops_val (yld_move rfl) rfl (ops_val (yld_move rfl) rfl (ops_call (span_c (Fc.a f) (Fc.r f) (max (Fc.lo f) (Fc.lo x1)) (min (Fc.hi f) (Fc.hi x1))) rfl pf_nil (fun _ _ _ => by exact trivial) rfl fun _ => ?_))
    refine ops_alloc Tryz.zeroValue41 rfl fun b6 => ?_
    refine ops_store 0 Tryz.sizeOf41 rfl rfl rfl rfl rfl rfl ?_
    refine ops_nil (fin_next rfl (run_seq (run_region (ops_val (yld_loadS 0 Tryz.isAgg41 Tryz.sizeOf41 rfl rfl rfl) rfl ?_))))
    refine ops_val (yld_loadS 2 Tryz.isAgg41 Tryz.sizeOf41 rfl rfl rfl) rfl ?_
    refine ops_valB (yld_neqFc (p := (fspan (Fc.a f) (Fc.r f) (max (Fc.lo f) (Fc.lo x1)) (min (Fc.hi f) (Fc.hi x1)))) (q := f) rfl rfl) rfl fun r8 hr8 => ?_
    refine ops_val (yld_move rfl) rfl ?_
    cases r8
    ·
     replace hr8 := of_decide_eq_false hr8
     refine ops_no rfl rfl rfl rfl (ops_no rfl rfl rfl rfl (ops_no rfl rfl rfl rfl (ops_val (yld_pick_f rfl rfl) rfl ?_)))
     refine ops_nil (fin_next rfl (run_cond_f rfl (run_skip (fin_next rfl (run_region (ops_val (yld_arith rfl rfl rfl (wrap64 (by omega) (by omega))) rfl ?_))))))
     refine ops_val (yld_move rfl) rfl (ops_nil (fin_inv rfl ?_))
     exact ok_again ⟨(i + 1, Hs_i, e), hlx1, (by rw [meetG_step hx1]; first | (rw [if_pos (by rw [Bool.and_eq_true]; exact ⟨by simp only [apart]; rw [decide_eq_false (by omega)]; rfl, decide_eq_true ⟨by assumption, by assumption⟩⟩), emits_append]; exact hS_i) | (rw [if_neg (by rw [Bool.and_eq_true]; intro q; first | exact absurd (of_decide_eq_true q.2).1 (by assumption) | exact absurd (of_decide_eq_true q.2).2 (by assumption) | (have q1 := q.1; simp only [apart] at q1; rw [decide_eq_true (by omega)] at q1; cases q1)), List.append_nil]; exact hS_i)), by rw [any_step hx1, ← he]; simp only [apart]; rw [decide_eq_false (by omega)]; simp⟩ (by dsimp only; omega) ⟨rfl, rfl, rfl, rfl, rfl, rfl, trivial⟩ (pf_takeB (pf_cons (pf_cons pf_here)) (pf_cons pf_lastB)) (fun v _ h => by exact ⟨h.1, h.2.1, h.2.2.1, h.2.2.2.1, h.2.2.2.2.1, h.2.2.2.2.2.1, h.2.2.2.2.2.2.1, h.2.2.2.2.2.2.2.1, h.2.2.2.2.2.2.2.2.1, trivial⟩)
    ·
     replace hr8 := of_decide_eq_true hr8
     refine ops_yes rfl rfl (ops_val (yld_loadS 0 Tryz.isAgg41 Tryz.sizeOf41 rfl rfl rfl) rfl ?_)
     refine ops_yes rfl rfl (ops_val (yld_loadS 1 Tryz.isAgg41 Tryz.sizeOf41 rfl rfl rfl) rfl ?_)
     refine ops_yes rfl rfl (ops_valB (yld_neqFc (p := (fspan (Fc.a f) (Fc.r f) (max (Fc.lo f) (Fc.lo x1)) (min (Fc.hi f) (Fc.hi x1)))) (q := x1) rfl rfl) rfl fun r9 hr9 => ?_)
     refine ops_val (yld_pick_t rfl rfl) rfl ?_
     refine ops_nil (fin_next rfl ?_)
     cases r9
     ·
      replace hr9 := of_decide_eq_false hr9
      refine run_cond_f rfl (run_skip (fin_next rfl (run_region (ops_val (yld_arith rfl rfl rfl (wrap64 (by omega) (by omega))) rfl ?_))))
      refine ops_val (yld_move rfl) rfl (ops_nil (fin_inv rfl ?_))
      exact ok_again ⟨(i + 1, Hs_i, e), hlx1, (by rw [meetG_step hx1]; first | (rw [if_pos (by rw [Bool.and_eq_true]; exact ⟨by simp only [apart]; rw [decide_eq_false (by omega)]; rfl, decide_eq_true ⟨by assumption, by assumption⟩⟩), emits_append]; exact hS_i) | (rw [if_neg (by rw [Bool.and_eq_true]; intro q; first | exact absurd (of_decide_eq_true q.2).1 (by assumption) | exact absurd (of_decide_eq_true q.2).2 (by assumption) | (have q1 := q.1; simp only [apart] at q1; rw [decide_eq_true (by omega)] at q1; cases q1)), List.append_nil]; exact hS_i)), by rw [any_step hx1, ← he]; simp only [apart]; rw [decide_eq_false (by omega)]; simp⟩ (by dsimp only; omega) ⟨rfl, rfl, rfl, rfl, rfl, rfl, trivial⟩ (pf_takeB (pf_cons (pf_cons pf_here)) (pf_cons pf_lastB)) (fun v _ h => by exact ⟨h.1, h.2.1, h.2.2.1, h.2.2.2.1, h.2.2.2.2.1, h.2.2.2.2.2.1, h.2.2.2.2.2.2.1, h.2.2.2.2.2.2.2.1, h.2.2.2.2.2.2.2.2.1, trivial⟩)
     ·
      replace hr9 := of_decide_eq_true hr9
      refine run_cond_t rfl ?_
      refine run_drawH ((b6, .cells #[.int .i64 (Fc.kind (fspan (Fc.a f) (Fc.r f) (max (Fc.lo f) (Fc.lo x1)) (min (Fc.hi f) (Fc.hi x1)))), str (Fc.a (fspan (Fc.a f) (Fc.r f) (max (Fc.lo f) (Fc.lo x1)) (min (Fc.hi f) (Fc.hi x1)))), str (Fc.b (fspan (Fc.a f) (Fc.r f) (max (Fc.lo f) (Fc.lo x1)) (min (Fc.hi f) (Fc.hi x1)))), str (Fc.r (fspan (Fc.a f) (Fc.r f) (max (Fc.lo f) (Fc.lo x1)) (min (Fc.hi f) (Fc.hi x1)))), .int .i64 (Fc.lo (fspan (Fc.a f) (Fc.r f) (max (Fc.lo f) (Fc.lo x1)) (min (Fc.hi f) (Fc.hi x1)))), .int .i64 (Fc.hi (fspan (Fc.a f) (Fc.r f) (max (Fc.lo f) (Fc.lo x1)) (min (Fc.hi f) (Fc.hi x1))))] 41 (0, 0)) :: ((b5, .cells #[.int .i64 (Fc.kind x1), str (Fc.a x1), str (Fc.b x1), str (Fc.r x1), .int .i64 (Fc.lo x1), .int .i64 (Fc.hi x1)] 41 (0, 0)) :: ((b1, .cells #[.int .i64 (Fc.kind f), str (Fc.a f), str (Fc.b f), str (Fc.r f), .int .i64 (Fc.lo f), .int .i64 (Fc.hi f)] 41 (0, 0)) :: []))) (by kernel_rfl) ?_
      refine any_sq 1 [0, 1, 2, 3, 4] (by kernel_rfl) (fun _ a b => ⟨Vw.sat.sub (a.perm (pf_takeB pf_here (pf_takeB pf_here pf_here))), b⟩) ?_
      refine sq_val rfl (yld_move rfl) rfl ?_
      refine sq_val rfl (yld_nilck rfl) rfl ?_
      refine sq_val rfl (yld_field Tryz.runUnderlying94 rfl rfl rfl Tryz.sizeOf89) rfl ?_
      refine sq_val rfl (yld_loadO Tryz.isAgg89 rfl (fun v _ h => by exact h.1) rfl) rfl ?_
      refine sq_val rfl (yld_loadS 0 Tryz.isAgg41 Tryz.sizeOf41 rfl rfl rfl) rfl ?_
      refine sq_nil ?_
      refine any_one 5 rfl (by kernel_rfl) ?_
      refine ops_calld (first := []) (cap := E.caps) (E.emit (fspan (Fc.a f) (Fc.r f) (max (Fc.lo f) (Fc.lo x1)) (min (Fc.hi f) (Fc.hi x1))) (emits E.stp (meetG f (List.take i (lat x.ranges ((Fc.a f), (Fc.r f))))) nw) fm Hs_i hS_i) rfl rfl (pf_cons (pf_cons pf_lastB)) (fun v _ h => by exact ⟨h.2.2.2.2.2.2.2.2.1, trivial⟩) rfl fun ⟨Hs4, hS4⟩ => ?_
      dsimp only
      refine ops_nil (fin_inv rfl (any_next (fun _ a b => ⟨Vw.sat.sub (a.perm (pf_takeB (pf_app pf_here) (pf_takeB (pf_app pf_here) pf_last))), b⟩) ?_))
      refine any_done (by kernel_rfl) ?_
      refine fin_next rfl (run_region (ops_val (yld_arith rfl rfl rfl (wrap64 (by omega) (by omega))) rfl ?_))
      refine ops_val (yld_move rfl) rfl (ops_nil (fin_inv rfl ?_))
      exact ok_again ⟨(i + 1, Hs4, e), hlx1, (by rw [meetG_step hx1]; first | (rw [if_pos (by rw [Bool.and_eq_true]; exact ⟨by simp only [apart]; rw [decide_eq_false (by omega)]; rfl, decide_eq_true ⟨by assumption, by assumption⟩⟩), emits_append]; exact hS4) | (rw [if_neg (by rw [Bool.and_eq_true]; intro q; first | exact absurd (of_decide_eq_true q.2).1 (by assumption) | exact absurd (of_decide_eq_true q.2).2 (by assumption) | (have q1 := q.1; simp only [apart] at q1; rw [decide_eq_true (by omega)] at q1; cases q1)), List.append_nil]; exact hS4)), by rw [any_step hx1, ← he]; simp only [apart]; rw [decide_eq_false (by omega)]; simp⟩ (by dsimp only; omega) ⟨rfl, rfl, rfl, rfl, rfl, rfl, trivial⟩ (pf_takeB (pf_app (pf_cons (pf_cons pf_here))) pf_hereO) (fun v _ h => by exact ⟨h.1, h.2.1, h.2.2.1, h.2.2.2.1, h.2.2.2.2.1, h.2.2.2.2.2.1, h.2.2.2.2.2.2.1, h.2.2.2.2.2.2.2.1, h.2.2.2.2.2.2.2.2.1, trivial⟩)
   ·
    replace hr7 := of_decide_eq_true hr7
    refine run_cond_t rfl (run_region (ops_val (yld_assign rfl) rfl (ops_nil (fin_next rfl (run_region (ops_val (yld_arith rfl rfl rfl (wrap64 (by omega) (by omega))) rfl ?_))))))
    refine ops_val (yld_move rfl) rfl (ops_nil (fin_inv rfl ?_))
    exact ok_again ⟨(i + 1, Hs_i, true), hlx1, (by rw [meetG_step hx1]; first | (rw [if_pos (by rw [Bool.and_eq_true]; exact ⟨by simp only [apart]; rw [decide_eq_false (by omega)]; rfl, decide_eq_true ⟨by assumption, by assumption⟩⟩), emits_append]; exact hS_i) | (rw [if_neg (by rw [Bool.and_eq_true]; intro q; first | exact absurd (of_decide_eq_true q.2).1 (by assumption) | exact absurd (of_decide_eq_true q.2).2 (by assumption) | (have q1 := q.1; simp only [apart] at q1; rw [decide_eq_true (by omega)] at q1; cases q1)), List.append_nil]; exact hS_i)), by rw [any_step hx1, ← he]; simp only [apart]; rw [decide_eq_true (by omega)]; simp⟩ (by dsimp only; omega) ⟨rfl, rfl, rfl, rfl, rfl, rfl, trivial⟩ (pf_takeB (pf_cons pf_here) pf_lastB) (fun v _ h => by exact ⟨h.1, h.2.1, h.2.2.1, h.2.2.2.1, h.2.2.2.2.1, h.2.2.2.2.2.1, h.2.2.2.2.2.2.1, h.2.2.2.2.2.2.2.1, h.2.2.2.2.2.2.2.2.1, trivial⟩)
theorem begin_c (B : EngB) (E : Emt Tryz.prog 41) (nw fm : List Fc) (Hs : Hp) (hS : E.St nw fm Hs) (al : List Str) (aad : Option Addr) (acap : Nat) (hal : al.length ≤ 1000000000) (hll : B.lps.length ≤ 1000000000) : Tri Tryz.prog 57 #[.pointer (some ⟨B.g, 0, none⟩), .slice aad (List.length al) acap] Hs [gF B E, rowF B.lad (List.flatMap strC B.lps), rowF aad (List.flatMap strC al), E.ef] (fun _ : {H' : Hp // E.St (emits E.stp (beginL B.lps al) nw) fm H'} => .tuple #[]) (fun y => y.1) (fun _ => []) := by
 refine tri_of_body Tryz.func57 rfl rfl Tryz.ntmps57 rfl fun v0 => ?_
 refine run_seq (run_region (ops_val (yld_move rfl) rfl (ops_val (yld_lenS Tryz.runUnderlying25 rfl) rfl ?_)))
 refine ops_val (yld_move rfl) rfl (ops_nil (fin_next rfl (run_block (ok_fr [(0, .pointer (some ⟨B.g, 0, none⟩)), (8, .slice aad (List.length al) acap), (9, .int .i64 (List.length al : Int)), (10, .int .i64 ((0 : Nat) : Int))] ⟨rfl, rfl, rfl, rfl, trivial⟩ ?_))))
 refine ok_weak (H' := (Hs)) (Γ' := [gF B E, rowF B.lad (List.flatMap strC B.lps), rowF aad (List.flatMap strC al), E.ef]) pf_end (fun v _ h => by exact ⟨h.1, h.2.1, h.2.2.1, h.2.2.2.1, trivial⟩) ?_
 refine run_loop (ι := {y : Nat × Hp // y.1 ≤ List.length al ∧ E.St (emits E.stp (List.flatMap (fun a => fsub a a :: fsub a [42] :: List.map (fun r => flink a r a) B.lps) (List.take y.1 al)) nw) fm y.2}) (fun y => [(0, .pointer (some ⟨B.g, 0, none⟩)), (8, .slice aad (List.length al) acap), (9, .int .i64 (List.length al : Int)), (10, .int .i64 (y.1.1 : Int))]) (fun y => (y.1.2)) (fun y => [gF B E, rowF B.lad (List.flatMap strC B.lps), rowF aad (List.flatMap strC al), E.ef]) (fun y => List.length al - y.1.1) ⟨((0 : Nat), Hs), by simp, by exact hS⟩ ?_
 rintro ⟨⟨i, Hs_i⟩, hi_i, hS_i⟩
 dsimp only at hi_i hS_i ⊢
 refine ok_fr [(0, .pointer (some ⟨B.g, 0, none⟩)), (8, .slice aad (List.length al) acap), (9, .int .i64 (List.length al : Int)), (10, .int .i64 (i : Int))] ⟨rfl, rfl, rfl, rfl, trivial⟩ ?_
 have hb_i := hal
 refine run_seq (run_region (ops_valB (yld_lss rfl rfl) rfl fun r1 hr1 => ?_))
 refine ops_nil (fin_next rfl (run_seq ?_))
 cases r1
 ·
  replace hr1 := of_decide_eq_false hr1
  refine run_cond_f rfl (run_exit rfl (fin_end rfl ?_))
  exact end0 Tryz.results57 ⟨Hs_i, by unfold beginL; rw [List.take_of_length_le (by omega)] at hS_i; exact hS_i⟩ rfl pf_end (fun _ _ _ => trivial)
 ·
  replace hr1 := of_decide_eq_true hr1
  have hlx1 : i < List.length al := by omega
  obtain ⟨x1, hx1⟩ : ∃ e0, al[i]? = some e0 := ⟨_, List.getElem?_eq_getElem hlx1⟩
  have hmx1 : x1 ∈ al := List.mem_of_getElem? hx1
  refine run_cond_t rfl (run_skip (fin_next rfl (run_seq (run_block (run_seq (run_region (ops_val (yld_indexR Tryz.runUnderlying25 Tryz.sizeOf9 rfl rfl (fun v _ h => row_adr (n := 1) strC_len (by decide) (by exact h.2.2.1) hx1) (by omega) (by first | omega | (simp; done))) rfl ?_)))))))
  refine ops_val (yld_loadR (ad := aad) Tryz.isAgg9 rfl (fun v _ h => by exact h.2.2.1) (row_cells strC_len hx1 0 _ rfl)) rfl ?_
  refine ops_val (yld_assign rfl) rfl (ops_nil (fin_next rfl (run_seq ?_)))
  refine run_drawH ([]) (by kernel_rfl) ?_
  refine any_sq 2 [0, 1, 2, 3, 4, 5] (by kernel_rfl) (fun _ a b => ⟨satNil a, b⟩) ?_
  refine sq_val rfl (yld_move rfl) rfl ?_
  refine sq_val rfl (yld_nilck rfl) rfl ?_
  refine sq_val rfl (yld_field Tryz.runUnderlying94 rfl rfl rfl Tryz.sizeOf89) rfl ?_
  refine sq_val rfl (yld_loadO Tryz.isAgg89 rfl (fun v _ h => by exact h.1) rfl) rfl ?_
  refine sq_val rfl (yld_move rfl) rfl ?_
  refine sq_val rfl (yld_move rfl) rfl ?_
  refine sq_nil ?_
  refine any_one 6 rfl (by kernel_rfl) ?_
  refine ops_call (sub_c x1 x1) rfl pf_nil (fun _ _ _ => by exact trivial) rfl fun _ => ?_
  refine ok_perm pf_un ?_
  refine ops_nil (fin_inv rfl (any_next (fun _ a b => ⟨satNil a, b⟩) ?_))
  refine any_one 7 rfl (by kernel_rfl) ?_
  refine ops_calld (first := []) (cap := E.caps) (E.emit (fsub x1 x1) (emits E.stp (List.flatMap (fun a => fsub a a :: fsub a [42] :: List.map (fun r => flink a r a) B.lps) (List.take i al)) nw) fm Hs_i hS_i) rfl rfl pf_end (fun v _ h => by exact ⟨h.2.2.2.1, trivial⟩) rfl fun ⟨Hs1, hS1⟩ => ?_
  dsimp only
  refine ok_perm pf_bare ?_
  refine ops_nil (fin_inv rfl (any_next (fun _ a b => ⟨satNil a, b⟩) ?_))
  refine any_done (by kernel_rfl) ?_
  refine fin_next rfl (run_seq ?_)
  refine run_drawH ([]) (by kernel_rfl) ?_
  refine any_sq 2 [0, 1, 2, 3, 4] (by kernel_rfl) (fun _ a b => ⟨satNil a, b⟩) ?_
  refine sq_val rfl (yld_move rfl) rfl ?_
  refine sq_val rfl (yld_nilck rfl) rfl ?_
  refine sq_val rfl (yld_field Tryz.runUnderlying94 rfl rfl rfl Tryz.sizeOf89) rfl ?_
  refine sq_val rfl (yld_loadO Tryz.isAgg89 rfl (fun v _ h => by exact h.1) rfl) rfl ?_
  refine sq_val rfl (yld_move rfl) rfl ?_
  refine sq_nil ?_
  refine any_one 5 rfl (by kernel_rfl) ?_
  refine ops_call (sub_c x1 [42]) rfl pf_nil (fun _ _ _ => by exact trivial) rfl fun _ => ?_
  refine ok_perm pf_un ?_
  refine ops_nil (fin_inv rfl (any_next (fun _ a b => ⟨satNil a, b⟩) ?_))
  refine any_one 6 rfl (by kernel_rfl) ?_
  refine ops_calld (first := []) (cap := E.caps) (E.emit (fsub x1 [42]) (E.stp (fsub x1 x1) (emits E.stp (List.flatMap (fun a => fsub a a :: fsub a [42] :: List.map (fun r => flink a r a) B.lps) (List.take i al)) nw)) fm Hs1 hS1) rfl rfl pf_end (fun v _ h => by exact ⟨h.2.2.2.1, trivial⟩) rfl fun ⟨Hs2, hS2⟩ => ?_
  dsimp only
  refine ok_perm pf_bare ?_
  refine ops_nil (fin_inv rfl (any_next (fun _ a b => ⟨satNil a, b⟩) ?_))
  refine any_done (by kernel_rfl) ?_
  refine fin_next rfl (run_seq (run_region (ops_val (yld_move rfl) rfl (ops_val (yld_nilck rfl) rfl ?_))))
  refine ops_val (yld_field Tryz.runUnderlying94 rfl rfl rfl Tryz.sizeOf25) rfl ?_
  refine ops_val (yld_loadO Tryz.isAgg25 rfl (fun v _ h => by exact h.1) rfl) rfl ?_
  refine ops_val (yld_lenS Tryz.runUnderlying25 rfl) rfl ?_
  refine ops_val (yld_move rfl) rfl (ops_nil (fin_next rfl (run_block (ok_fr [(0, .pointer (some ⟨B.g, 0, none⟩)), (8, .slice aad (List.length al) acap), (9, .int .i64 (List.length al : Int)), (10, .int .i64 (i : Int)), (5, str x1), (32, .slice B.lad (List.length B.lps) B.lcap), (33, .int .i64 (List.length B.lps : Int)), (34, .int .i64 ((0 : Nat) : Int))] ⟨rfl, rfl, rfl, rfl, rfl, rfl, rfl, rfl, trivial⟩ ?_))))
  refine ok_weak (H' := (Hs2)) (Γ' := [gF B E, rowF B.lad (List.flatMap strC B.lps), rowF aad (List.flatMap strC al), E.ef]) pf_end (fun v _ h => by exact ⟨h.1, h.2.1, h.2.2.1, h.2.2.2.1, trivial⟩) ?_
  refine run_loop (ι := {y : Nat × Hp // y.1 ≤ List.length B.lps ∧ E.St (emits E.stp (List.map (fun r => flink x1 r x1) (List.take y.1 B.lps)) (E.stp (fsub x1 [42]) (E.stp (fsub x1 x1) (emits E.stp (List.flatMap (fun a => fsub a a :: fsub a [42] :: List.map (fun r => flink a r a) B.lps) (List.take i al)) nw)))) fm y.2}) (fun y => [(0, .pointer (some ⟨B.g, 0, none⟩)), (8, .slice aad (List.length al) acap), (9, .int .i64 (List.length al : Int)), (10, .int .i64 (i : Int)), (5, str x1), (32, .slice B.lad (List.length B.lps) B.lcap), (33, .int .i64 (List.length B.lps : Int)), (34, .int .i64 (y.1.1 : Int))]) (fun y => (y.1.2)) (fun y => [gF B E, rowF B.lad (List.flatMap strC B.lps), rowF aad (List.flatMap strC al), E.ef]) (fun y => List.length B.lps - y.1.1) ⟨((0 : Nat), Hs2), by simp, by exact hS2⟩ ?_
  rintro ⟨⟨j, Hs_j⟩, hi_j, hS_j⟩
  dsimp only at hi_j hS_j ⊢
  refine ok_fr [(0, .pointer (some ⟨B.g, 0, none⟩)), (8, .slice aad (List.length al) acap), (9, .int .i64 (List.length al : Int)), (10, .int .i64 (i : Int)), (5, str x1), (32, .slice B.lad (List.length B.lps) B.lcap), (33, .int .i64 (List.length B.lps : Int)), (34, .int .i64 (j : Int))] ⟨rfl, rfl, rfl, rfl, rfl, rfl, rfl, rfl, trivial⟩ ?_
  have hb_j := hll
  refine run_seq (run_region (ops_valB (yld_lss rfl rfl) rfl fun r2 hr2 => ?_))
  refine ops_nil (fin_next rfl (run_seq ?_))
  cases r2
  ·
   replace hr2 := of_decide_eq_false hr2
   refine run_cond_f rfl (run_exit rfl (fin_next rfl (run_region (ops_val (yld_arith rfl rfl rfl (wrap64 (by omega) (by omega))) rfl ?_))))
   refine ops_val (yld_move rfl) rfl (ops_nil (fin_inv rfl ?_))
   exact ok_again ⟨(i + 1, Hs_j), hlx1, (by rw [fmap_step hx1, emits_append]; have e9 : List.take j B.lps = B.lps := List.take_of_length_le (by omega); rw [e9] at hS_j; exact hS_j)⟩ (by dsimp only; omega) ⟨rfl, rfl, rfl, rfl, trivial⟩ pf_end (fun v _ h => by exact ⟨h.1, h.2.1, h.2.2.1, h.2.2.2.1, trivial⟩)
  ·
   replace hr2 := of_decide_eq_true hr2
   have hlx2 : j < List.length B.lps := by omega
   obtain ⟨x2, hx2⟩ : ∃ e0, B.lps[j]? = some e0 := ⟨_, List.getElem?_eq_getElem hlx2⟩
   have hmx2 : x2 ∈ B.lps := List.mem_of_getElem? hx2
   refine run_cond_t rfl (run_skip (fin_next rfl (run_seq (run_block (run_seq (run_region (ops_val (yld_indexR Tryz.runUnderlying25 Tryz.sizeOf9 rfl rfl (fun v _ h => row_adr (n := 1) strC_len (by decide) (by exact h.2.1) hx2) (by omega) (by first | omega | (simp; done))) rfl ?_)))))))
   refine ops_val (yld_loadR (ad := B.lad) Tryz.isAgg9 rfl (fun v _ h => by exact h.2.1) (row_cells strC_len hx2 0 _ rfl)) rfl ?_
   refine ops_val (yld_assign rfl) rfl (ops_nil (fin_next rfl ?_))
   refine run_drawH ([]) (by kernel_rfl) ?_
   refine any_sq 2 [0, 1, 2, 3, 4, 5, 6] (by kernel_rfl) (fun _ a b => ⟨satNil a, b⟩) ?_
   refine sq_val rfl (yld_move rfl) rfl ?_
   refine sq_val rfl (yld_nilck rfl) rfl ?_
   refine sq_val rfl (yld_field Tryz.runUnderlying94 rfl rfl rfl Tryz.sizeOf89) rfl ?_
   refine sq_val rfl (yld_loadO Tryz.isAgg89 rfl (fun v _ h => by exact h.1) rfl) rfl ?_
   refine sq_val rfl (yld_move rfl) rfl ?_
   refine sq_val rfl (yld_move rfl) rfl ?_
   refine sq_val rfl (yld_move rfl) rfl ?_
   refine sq_nil ?_
   refine any_one 7 rfl (by kernel_rfl) ?_
   refine ops_call (link_c x1 x2 x1) rfl pf_nil (fun _ _ _ => by exact trivial) rfl fun _ => ?_
   refine ok_perm pf_un ?_
   refine ops_nil (fin_inv rfl (any_next (fun _ a b => ⟨satNil a, b⟩) ?_))
   refine any_one 8 rfl (by kernel_rfl) ?_
   refine ops_calld (first := []) (cap := E.caps) (E.emit (flink x1 x2 x1) (emits E.stp (List.map (fun r => flink x1 r x1) (List.take j B.lps)) (E.stp (fsub x1 [42]) (E.stp (fsub x1 x1) (emits E.stp (List.flatMap (fun a => fsub a a :: fsub a [42] :: List.map (fun r => flink a r a) B.lps) (List.take i al)) nw)))) fm Hs_j hS_j) rfl rfl pf_end (fun v _ h => by exact ⟨h.2.2.2.1, trivial⟩) rfl fun ⟨Hs3, hS3⟩ => ?_
   dsimp only
   refine ok_perm pf_bare ?_
   refine ops_nil (fin_inv rfl (any_next (fun _ a b => ⟨satNil a, b⟩) ?_))
   refine any_done (by kernel_rfl) ?_
   refine fin_next rfl (run_region (ops_val (yld_arith rfl rfl rfl (wrap64 (by omega) (by omega))) rfl ?_))
   refine ops_val (yld_move rfl) rfl (ops_nil (fin_inv rfl ?_))
   exact ok_again ⟨(j + 1, Hs3), hlx2, (by rw [map_step hx2, emits_append]; exact hS3)⟩ (by dsimp only; omega) ⟨rfl, rfl, rfl, rfl, rfl, rfl, rfl, rfl, trivial⟩ pf_end (fun v _ h => by exact ⟨h.1, h.2.1, h.2.2.1, h.2.2.2.1, trivial⟩)
end Go.Proofs.YtpdbbglpbngeiaaGreatDoor
namespace Go.Proofs.YtpdbbglpbngeiaaGreatDoor
open Go Go.Sx Go.Proofs
set_option linter.unusedVariables false
attribute [local irreducible] Code.wp wpList wpAnyH
open Go.Vs
theorem index_c (B : EngB) (E : Emt Tryz.prog 41) (x : Ix) (f : Fc) (nw fm : List Fc) (Hs : Hp) (hS : E.St nw fm Hs) (Ha Hu Ho Hi Hr Hm : Hp) (hI : IxO 9 41 B x ⟨Ha, Hu, Ho, Hi, Hr, Hm⟩) (hxl : ∀ k, (lat x.above k).length ≤ 1000000000 ∧ (lat x.under k).length ≤ 1000000000) (hyl : ∀ k, (lat x.frm k).length ≤ 1000000000 ∧ (lat x.into k).length ≤ 1000000000 ∧ (lat x.ranges k).length ≤ 1000000000 ∧ (lat x.firms k).length ≤ 1000000000) : Tri Tryz.prog 59 #[.pointer (some ⟨B.g, 0, none⟩), Fc.val f] (Ha ++ (Hu ++ (Ho ++ (Hi ++ (Hr ++ (Hm ++ Hs)))))) [gF B E] (fun _ : {y : IxH // IxO 9 41 B (x.add (decide (f ∈ fm)) f) y} => .tuple #[]) (fun y => y.1.a ++ (y.1.u ++ (y.1.o ++ (y.1.i ++ (y.1.r ++ (y.1.s ++ Hs)))))) (fun _ => []) := by
 refine tri_of_body Tryz.func59 rfl rfl Tryz.ntmps59 rfl fun v0 => ?_
 obtain ⟨ha, hu, ho, hi, hr, hm⟩ := hI
 dsimp only at ha hu ho hi hr hm
 refine run_seq (run_region (ops_box rfl rfl fun b1 => ?_))
 refine ops_nil (fin_next rfl (run_seq (run_region (ops_val (yld_field Tryz.runUnderlying41 rfl rfl rfl Tryz.sizeOf3) rfl ?_))))
 refine ops_val (yld_load 0 Tryz.isAgg3 rfl rfl rfl) rfl ?_
 refine ops_nil (fin_next rfl (run_block (run_seq (run_region (ops_valB (yld_eql rfl rfl) rfl fun r1 hr1 => ?_)))))
 refine ops_val (yld_assign rfl) rfl (ops_nil (fin_next rfl ?_))
 cases r1
 ·
  replace hr1 := ne_of_beq_false hr1
  refine run_cond_f rfl (run_seq (run_region (ops_valB (yld_eql rfl rfl) rfl fun r2 hr2 => ?_)))
  refine ops_val (yld_assign rfl) rfl (ops_nil (fin_next rfl ?_))
  cases r2
  ·
   replace hr2 := ne_of_beq_false hr2
   refine run_cond_f rfl (run_seq (run_region (ops_valB (yld_eql rfl rfl) rfl fun r3 hr3 => ?_)))
   refine ops_val (yld_assign rfl) rfl (ops_nil (fin_next rfl ?_))
   cases r3
   ·
    replace hr3 := ne_of_beq_false hr3
    refine run_cond_f rfl (run_skip (fin_end rfl ?_))
    exact end0 Tryz.results59 ⟨IxH.mk Ha Hu Ho Hi Hr Hm, by unfold Ix.add; rw [if_neg (by assumption), if_neg (by assumption), if_neg (by assumption)]; exact ⟨ha, hu, ho, hi, hr, hm⟩⟩ rfl (pf_takeO (pf_cons pf_hereO) (pf_takeO (pf_cons pf_hereO) (pf_takeO (pf_cons pf_hereO) (pf_takeO (pf_cons pf_hereO) (pf_takeO (pf_cons pf_hereO) (pf_takeO (pf_cons pf_hereO) pf_lastB)))))) (fun _ _ _ => trivial)
   ·
    replace hr3 := eq_of_beq hr3
    refine run_cond_t rfl (run_seq (run_region (ops_val (yld_field Tryz.runUnderlying41 rfl rfl rfl Tryz.sizeOf9) rfl ?_)))
    refine ops_val (yld_load 0 Tryz.isAgg9 rfl rfl rfl) rfl ?_
    refine ops_val (yld_field Tryz.runUnderlying41 rfl rfl rfl Tryz.sizeOf9) rfl ?_
    refine ops_val (yld_load 0 Tryz.isAgg9 rfl rfl rfl) rfl ?_
    refine ops_val (yld_struct strt145 rfl rfl) rfl ?_
    refine ops_alloc Tryz.zeroValue145 rfl fun b2 => ?_
    refine ops_store 0 Tryz.sizeOf145 rfl rfl rfl rfl rfl rfl ?_
    refine ops_nil (fin_next rfl (run_seq ?_))
    refine run_drawH ((b2, .cells #[str (Fc.a f), str (Fc.r f)] 145 (0, 0)) :: ((b1, .cells #[.int .i64 (Fc.kind f), str (Fc.a f), str (Fc.b f), str (Fc.r f), .int .i64 (Fc.lo f), .int .i64 (Fc.hi f)] 41 (0, 0)) :: [])) (by kernel_rfl) ?_
    refine any_sq 6 [0, 1, 2, 3, 4, 5] (by kernel_rfl) (fun _ a b => ⟨Vw.sat.sub (a.perm (pf_takeB pf_here pf_here)), b⟩) ?_
    refine sq_val rfl (yld_move rfl) rfl ?_
    refine sq_val rfl (yld_nilck rfl) rfl ?_
    refine sq_val rfl (yld_field Tryz.runUnderlying94 rfl rfl rfl Tryz.sizeOf92) rfl ?_
    refine sq_val rfl (yld_loadO Tryz.isAgg92 rfl (fun v _ h => by exact h.1) rfl) rfl ?_
    refine sq_val rfl (yld_loadS 0 Tryz.isAgg145 Tryz.sizeOf145 rfl rfl rfl) rfl ?_
    refine sq_val rfl (yld_loadS 1 Tryz.isAgg41 Tryz.sizeOf41 rfl rfl rfl) rfl ?_
    refine sq_nil ?_
    refine any_one 6 rfl (by kernel_rfl) ?_
    refine ops_slit Tryz.runUnderlying26 Tryz.sizeOf41 Tryz.zeroValue41 rfl rfl rfl rfl rfl rfl fun b3 => ?_
    refine ops_nil (fin_inv rfl (any_next (fun _ a b => ⟨Vw.sat.sub (a.perm (pf_takeB (pf_cons pf_here) (pf_cons pf_here))), b⟩) ?_))
    refine any_one 7 rfl (by kernel_rfl) ?_
    have hbb1 := (hyl ((Fc.a f), (Fc.r f))).2.2.1
    refine ops_entry (k := ((Fc.a f), (Fc.r f))) keySpot hr Tryz.runUnderlying92 Tryz.zeroValue26 rfl rfl (pf_cons (pf_cons (pf_cons (pf_app (pf_app (pf_app (pf_app pf_hereO))))))) rfl fun es1 ce1 ie1 se1 ve1 Hk1 Hx1 ho1 hw1 => ?_
    refine ops_nil (fin_inv rfl (any_next (fun _ a b => ⟨Vw.sat.sub (a.perm (pf_takeB (pf_cons (pf_app (pf_app (pf_cons pf_here)))) (pf_cons (pf_app (pf_app (pf_cons pf_here)))))), b⟩) ?_))
    refine any_sq 2 [8, 10] (by kernel_rfl) (fun _ a b => ⟨Vw.sat.sub (a.perm (pf_takeB (pf_cons (pf_app (pf_app (pf_cons pf_here)))) (pf_cons (pf_app (pf_app (pf_cons pf_here)))))), b⟩) ?_
    refine sq_val rfl (yld_extract rfl rfl) rfl ?_
    refine sq_val rfl (yld_extract rfl rfl) rfl ?_
    refine sq_nil ?_
    refine any_one 9 rfl (by kernel_rfl) ?_
    refine ops_append (news := List.flatMap Fc.cells [f]) elt_fc hw1 rfl rfl (pf_cons pf_hereO) rfl (own_newsP (pf_cons (pf_app (pf_app pf_here)))) (fun u hu => one_rows Fc.cells_one hu) (by simp only [maxLen]; omega) (by omega) rfl fun sv1 Hr1 hr1 => ?_
    have hq1 : SRow 41 6 sv1 (List.length ((lat x.ranges ((Fc.a f), (Fc.r f))) ++ [f])) (List.flatMap Fc.cells ((lat x.ranges ((Fc.a f), (Fc.r f))) ++ [f])) Hr1 := by rw [List.length_append, List.flatMap_append]; exact hr1
    refine ops_nil (fin_inv rfl (any_next (fun _ a b => ⟨Vw.sat.sub (a.perm (pf_takeB (pf_app (pf_cons (pf_app (pf_cons pf_here)))) (pf_app (pf_cons (pf_app (pf_cons pf_here)))))), b⟩) ?_))
    refine any_one 11 rfl (by kernel_rfl) ?_
    refine ops_entryStore (k := ((Fc.a f), (Fc.r f))) (dd := f) ho1 (by rw [lat_same]; exact hq1) rfl rfl rfl (pf_assoc (pf_takeB (pf_app pf_here) (pf_takeO pf_hereO pf_hereO))) fun H2 hM2 => ?_
    refine ops_nil (fin_inv rfl (any_next (fun _ a b => ⟨Vw.sat.sub (a.perm (pf_takeB (pf_app (pf_cons pf_here)) (pf_app (pf_cons pf_here)))), b⟩) ?_))
    refine any_done (by kernel_rfl) ?_
    refine fin_next rfl (ok_perm (pf_fB (pf_app pf_here) (pf_fB (pf_app pf_here) (pf_f1 (pf_app pf_here)))) ?_)
    refine run_seq ?_
    refine run_draw' (by kernel_rfl) ?_
    refine any_sq 0 [0, 1, 2, 3, 4, 5] (by kernel_rfl) (fun _ a b => ⟨a, b⟩) ?_
    refine sq_val rfl (yld_move rfl) rfl ?_
    refine sq_val rfl (yld_nilck rfl) rfl ?_
    refine sq_val rfl (yld_field Tryz.runUnderlying94 rfl rfl rfl Tryz.sizeOf88) rfl ?_
    refine sq_val rfl (yld_loadO Tryz.isAgg88 rfl (fun v _ h => by exact h.1) rfl) rfl ?_
    refine sq_val rfl (yld_loadS 2 Tryz.isAgg41 Tryz.sizeOf41 rfl rfl rfl) rfl ?_
    refine sq_valB rfl (yld_firm (f := f) hS keyFc Tryz.runUnderlying88 Tryz.zeroValue4 rfl rfl (pf_cons (pf_cons (pf_cons (pf_app (pf_app (pf_app (pf_app (pf_app pf_last))))))))) rfl fun r4 hr4 => ?_
    refine sq_nil ?_
    refine any_done (by kernel_rfl) ?_
    refine fin_next rfl ?_
    cases r4
    ·
     replace hr4 := of_decide_eq_false hr4
     refine run_cond_f rfl (run_skip (fin_end rfl ?_))
     exact end0 Tryz.results59 ⟨IxH.mk Ha Hu Ho Hi H2 Hm, by have e0 : x.add (decide (f ∈ fm)) f = { x with ranges := (x.ranges ++ [(((Fc.a f), (Fc.r f)), f)]) } := (by unfold Ix.add; rw [if_neg (by omega), if_neg (by omega), if_pos (by assumption), decide_eq_false (by assumption)]; rfl); rw [e0]; exact ⟨ha, hu, ho, hi, hM2, hm⟩⟩ rfl (pf_takeO (pf_cons (pf_cons (pf_cons (pf_app pf_hereO)))) (pf_takeO (pf_cons (pf_cons (pf_cons (pf_app pf_hereO)))) (pf_takeO (pf_cons (pf_cons (pf_cons (pf_app pf_hereO)))) (pf_takeO (pf_cons (pf_cons (pf_cons (pf_app pf_hereO)))) (pf_takeO (pf_cons (pf_cons (pf_cons pf_hereO))) (pf_takeO (pf_cons (pf_cons (pf_cons pf_hereO))) (pf_cons (pf_cons pf_lastB)))))))) (fun _ _ _ => trivial)
    ·
     replace hr4 := of_decide_eq_true hr4
     refine run_cond_t rfl ?_
     refine run_drawH ((b3, .cells #[.int .i64 (Fc.kind f), str (Fc.a f), str (Fc.b f), str (Fc.r f), .int .i64 (Fc.lo f), .int .i64 (Fc.hi f)] 41 (0, 0)) :: ((b2, .cells #[str (Fc.a f), str (Fc.r f)] 145 (0, 0)) :: ((b1, .cells #[.int .i64 (Fc.kind f), str (Fc.a f), str (Fc.b f), str (Fc.r f), .int .i64 (Fc.lo f), .int .i64 (Fc.hi f)] 41 (0, 0)) :: []))) (by kernel_rfl) ?_
     refine any_sq 6 [0, 1, 2, 3, 4, 5] (by kernel_rfl) (fun _ a b => ⟨Vw.sat.sub (a.perm (pf_takeB pf_here (pf_takeB pf_here pf_here))), b⟩) ?_
     refine sq_val rfl (yld_move rfl) rfl ?_
     refine sq_val rfl (yld_nilck rfl) rfl ?_
     refine sq_val rfl (yld_field Tryz.runUnderlying94 rfl rfl rfl Tryz.sizeOf92) rfl ?_
     refine sq_val rfl (yld_loadO Tryz.isAgg92 rfl (fun v _ h => by exact h.1) rfl) rfl ?_
     refine sq_val rfl (yld_loadS 1 Tryz.isAgg145 Tryz.sizeOf145 rfl rfl rfl) rfl ?_
     refine sq_val rfl (yld_loadS 2 Tryz.isAgg41 Tryz.sizeOf41 rfl rfl rfl) rfl ?_
     refine sq_nil ?_
     refine any_one 6 rfl (by kernel_rfl) ?_
     refine ops_slit Tryz.runUnderlying26 Tryz.sizeOf41 Tryz.zeroValue41 rfl rfl rfl rfl rfl rfl fun b4 => ?_
     refine ops_nil (fin_inv rfl (any_next (fun _ a b => ⟨Vw.sat.sub (a.perm (pf_takeB (pf_cons pf_here) (pf_takeB (pf_cons pf_here) (pf_cons pf_here)))), b⟩) ?_))
     refine any_one 7 rfl (by kernel_rfl) ?_
     have hbb3 := (hyl ((Fc.a f), (Fc.r f))).2.2.2
     refine ops_entry (k := ((Fc.a f), (Fc.r f))) keySpot hm Tryz.runUnderlying92 Tryz.zeroValue26 rfl rfl (pf_cons (pf_cons (pf_cons (pf_cons (pf_app (pf_app (pf_app (pf_app (pf_app pf_hereO))))))))) rfl fun es3 ce3 ie3 se3 ve3 Hk3 Hx3 ho3 hw3 => ?_
     refine ops_nil (fin_inv rfl (any_next (fun _ a b => ⟨Vw.sat.sub (a.perm (pf_takeB (pf_cons (pf_app (pf_app (pf_cons pf_here)))) (pf_takeB (pf_cons (pf_app (pf_app (pf_cons pf_here)))) (pf_cons (pf_app (pf_app (pf_cons pf_here))))))), b⟩) ?_))
     refine any_sq 2 [8, 10] (by kernel_rfl) (fun _ a b => ⟨Vw.sat.sub (a.perm (pf_takeB (pf_cons (pf_app (pf_app (pf_cons pf_here)))) (pf_takeB (pf_cons (pf_app (pf_app (pf_cons pf_here)))) (pf_cons (pf_app (pf_app (pf_cons pf_here))))))), b⟩) ?_
     refine sq_val rfl (yld_extract rfl rfl) rfl ?_
     refine sq_val rfl (yld_extract rfl rfl) rfl ?_
     refine sq_nil ?_
     refine any_one 9 rfl (by kernel_rfl) ?_
     refine ops_append (news := List.flatMap Fc.cells [f]) elt_fc hw3 rfl rfl (pf_cons pf_hereO) rfl (own_newsP (pf_cons (pf_app (pf_app pf_here)))) (fun u hu => one_rows Fc.cells_one hu) (by simp only [maxLen]; omega) (by omega) rfl fun sv2 Hr2 hr2 => ?_
     have hq2 : SRow 41 6 sv2 (List.length ((lat x.firms ((Fc.a f), (Fc.r f))) ++ [f])) (List.flatMap Fc.cells ((lat x.firms ((Fc.a f), (Fc.r f))) ++ [f])) Hr2 := by rw [List.length_append, List.flatMap_append]; exact hr2
     refine ops_nil (fin_inv rfl (any_next (fun _ a b => ⟨Vw.sat.sub (a.perm (pf_takeB (pf_app (pf_cons (pf_app (pf_cons pf_here)))) (pf_takeB (pf_app (pf_cons (pf_app (pf_cons pf_here)))) (pf_app (pf_cons (pf_app (pf_cons pf_here))))))), b⟩) ?_))
     refine any_one 11 rfl (by kernel_rfl) ?_
     refine ops_entryStore (k := ((Fc.a f), (Fc.r f))) (dd := f) ho3 (by rw [lat_same]; exact hq2) rfl rfl rfl (pf_assoc (pf_takeB (pf_app pf_here) (pf_takeO pf_hereO pf_hereO))) fun H4 hM4 => ?_
     refine ops_nil (fin_inv rfl (any_next (fun _ a b => ⟨Vw.sat.sub (a.perm (pf_takeB (pf_app (pf_cons pf_here)) (pf_takeB (pf_app (pf_cons pf_here)) (pf_app (pf_cons pf_here))))), b⟩) ?_))
     refine any_done (by kernel_rfl) ?_
     refine fin_end rfl ?_
     exact end0 Tryz.results59 ⟨IxH.mk Ha Hu Ho Hi H2 H4, by have e0 : x.add (decide (f ∈ fm)) f = { x with ranges := (x.ranges ++ [(((Fc.a f), (Fc.r f)), f)]), firms := (x.firms ++ [(((Fc.a f), (Fc.r f)), f)]) } := (by unfold Ix.add; rw [if_neg (by omega), if_neg (by omega), if_pos (by assumption), decide_eq_true (by assumption)]; rfl); rw [e0]; exact ⟨ha, hu, ho, hi, hM2, hM4⟩⟩ rfl (pf_takeO (pf_app (pf_cons (pf_cons (pf_cons (pf_cons (pf_app pf_hereO)))))) (pf_takeO (pf_app (pf_cons (pf_cons (pf_cons (pf_cons (pf_app pf_hereO)))))) (pf_takeO (pf_app (pf_cons (pf_cons (pf_cons (pf_cons (pf_app pf_hereO)))))) (pf_takeO (pf_app (pf_cons (pf_cons (pf_cons (pf_cons (pf_app pf_hereO)))))) (pf_takeO (pf_app (pf_cons (pf_cons (pf_cons (pf_cons pf_hereO))))) (pf_takeO pf_hereO (pf_cons (pf_cons (pf_cons pf_lastB))))))))) (fun _ _ _ => trivial)
  ·
   replace hr2 := eq_of_beq hr2
   refine run_cond_t rfl ?_
   have hbb5 := (hxl (Fc.b f)).2
   refine ok_open keyS (Fc.b f) hu (pf_cons (pf_app pf_hereO)) fun es5 ce5 ve5 Hk5 Hx5 hw5 ho5 => ?_
   refine ok_perm (pf_fB pf_here (pf_f1 (pf_app (pf_app pf_here)))) ?_
   refine run_seq ?_
   refine run_drawH ((b1, .cells #[.int .i64 (Fc.kind f), str (Fc.a f), str (Fc.b f), str (Fc.r f), .int .i64 (Fc.lo f), .int .i64 (Fc.hi f)] 41 (0, 0)) :: []) (by kernel_rfl) ?_
   refine any_sq 4 [0, 1, 2, 3, 4, 5, 6, 7, 8, 9, 10, 11, 13, 14] (by kernel_rfl) (fun _ a b => ⟨Vw.sat.sub (a.perm (pf_cons pf_here)), b⟩) ?_
   refine sq_val rfl (yld_move rfl) rfl ?_
   refine sq_val rfl (yld_nilck rfl) rfl ?_
   refine sq_val rfl (yld_field Tryz.runUnderlying94 rfl rfl rfl Tryz.sizeOf90) rfl ?_
   refine sq_val rfl (yld_loadO Tryz.isAgg90 rfl (fun v _ h => by exact h.1) rfl) rfl ?_
   refine sq_val rfl (yld_field Tryz.runUnderlying41 rfl rfl rfl Tryz.sizeOf9) rfl ?_
   refine sq_val rfl (yld_load 0 Tryz.isAgg9 rfl rfl rfl) rfl ?_
   refine sq_val rfl (yld_move rfl) rfl ?_
   refine sq_val rfl (yld_nilck rfl) rfl ?_
   refine sq_val rfl (yld_field Tryz.runUnderlying94 rfl rfl rfl Tryz.sizeOf90) rfl ?_
   refine sq_val rfl (yld_loadO Tryz.isAgg90 rfl (fun v _ h => by exact h.1) rfl) rfl ?_
   refine sq_val rfl (yld_field Tryz.runUnderlying41 rfl rfl rfl Tryz.sizeOf9) rfl ?_
   refine sq_val rfl (yld_load 0 Tryz.isAgg9 rfl rfl rfl) rfl ?_
   refine sq_val rfl (yld_field Tryz.runUnderlying41 rfl rfl rfl Tryz.sizeOf9) rfl ?_
   refine sq_val rfl (yld_load 0 Tryz.isAgg9 rfl rfl rfl) rfl ?_
   refine sq_nil ?_
   refine any_two 12 15 rfl rfl (by kernel_rfl) ?_ ?_
   ·
    refine ops_val (yld_lookO (k := (Fc.b f)) keyS ho5 Tryz.runUnderlying90 Tryz.zeroValue25 rfl rfl 0 rfl) rfl ?_
    refine ops_nil (fin_inv rfl (any_next (fun _ a b => ⟨Vw.sat.sub (a.perm (pf_cons pf_here)), b⟩) ?_))
    refine any_one 15 rfl (by kernel_rfl) ?_
    refine ops_slit Tryz.runUnderlying25 Tryz.sizeOf9 Tryz.zeroValue9 rfl rfl rfl rfl rfl rfl fun b5 => ?_
    refine ops_nil (fin_inv rfl (any_next (fun _ a b => ⟨Vw.sat.sub (a.perm (pf_cons (pf_cons pf_here))), b⟩) ?_))
    refine any_one 16 rfl (by kernel_rfl) ?_
    refine ops_append (news := List.flatMap strC [(Fc.a f)]) elt_str hw5 rfl rfl (pf_cons (pf_cons (pf_cons pf_hereO))) rfl (own_news 0 rfl) (fun u hu => one_rows strC_one hu) (by simp only [maxLen]; omega) (by omega) rfl fun sv3 Hr3 hr3 => ?_
    have hq3 : SRow 9 1 sv3 (List.length ((lat x.under (Fc.b f)) ++ [(Fc.a f)])) (List.flatMap strC ((lat x.under (Fc.b f)) ++ [(Fc.a f)])) Hr3 := by rw [List.length_append, List.flatMap_append]; exact hr3
    refine ops_nil (fin_inv rfl (any_next (fun _ a b => ⟨Vw.sat.sub (a.perm (pf_app (pf_cons (pf_cons pf_here)))), b⟩) ?_))
    refine any_one 17 rfl (by kernel_rfl) ?_
    refine ops_closeU (k := (Fc.b f)) (dd := (Fc.a f)) keyS ho5 (by rw [lat_same]; exact hq3) (.inr rfl) Tryz.runUnderlying90 rfl rfl rfl (pf_assoc (pf_takeB (pf_app (pf_cons pf_here)) (pf_takeO pf_hereO (pf_cons (pf_cons pf_hereO))))) fun H6 hM6 => ?_
    refine ops_nil (fin_inv rfl (any_next (fun _ a b => ⟨Vw.sat.sub (a.perm (pf_app (pf_cons pf_here))), b⟩) ?_))
    refine any_done (by kernel_rfl) ?_
    refine fin_next rfl (ok_perm (pf_fB (pf_app pf_here) (pf_f1 (pf_app pf_here))) ?_)
    refine run_seq ?_
    refine run_draw' (by kernel_rfl) ?_
    refine any_sq 4 [0, 1, 2, 3, 4, 5, 6, 7, 8, 9] (by kernel_rfl) (fun _ a b => ⟨a, b⟩) ?_
    refine sq_val rfl (yld_field Tryz.runUnderlying41 rfl rfl rfl Tryz.sizeOf9) rfl ?_
    refine sq_val rfl (yld_load 1 Tryz.isAgg9 rfl rfl rfl) rfl ?_
    refine sq_val rfl (yld_field Tryz.runUnderlying41 rfl rfl rfl Tryz.sizeOf9) rfl ?_
    refine sq_val rfl (yld_load 1 Tryz.isAgg9 rfl rfl rfl) rfl ?_
    refine sq_val rfl (yld_struct strt145 rfl rfl) rfl ?_
    refine sq_val rfl (yld_field Tryz.runUnderlying41 rfl rfl rfl Tryz.sizeOf9) rfl ?_
    refine sq_val rfl (yld_load 1 Tryz.isAgg9 rfl rfl rfl) rfl ?_
    refine sq_val rfl (yld_field Tryz.runUnderlying41 rfl rfl rfl Tryz.sizeOf9) rfl ?_
    refine sq_val rfl (yld_load 1 Tryz.isAgg9 rfl rfl rfl) rfl ?_
    refine sq_val rfl (yld_struct strt145 rfl rfl) rfl ?_
    refine sq_nil ?_
    refine any_two 10 11 rfl rfl (by kernel_rfl) ?_ ?_
    ·
     refine ops_alloc Tryz.zeroValue145 rfl fun b6 => ?_
     refine ops_nil (fin_inv rfl (any_next (fun _ a b => ⟨a.tail, b⟩) ?_))
     refine any_one 11 rfl (by kernel_rfl) ?_
     refine ops_alloc Tryz.zeroValue145 rfl fun b7 => ?_
     refine ops_nil (fin_inv rfl (any_next (fun _ a b => ⟨a.tail.tail, b⟩) ?_))
     refine any_one 12 rfl (by kernel_rfl) ?_
     refine ops_store 1 Tryz.sizeOf145 rfl rfl rfl rfl rfl rfl ?_
     refine ops_nil (fin_inv rfl (any_next (fun _ a b => ⟨a.tail.tail, b⟩) ?_))
     refine any_one 13 rfl (by kernel_rfl) ?_
     refine ops_store 0 Tryz.sizeOf145 rfl rfl rfl rfl rfl rfl ?_
     refine ops_nil (fin_inv rfl (any_next (fun _ a b => ⟨a.tail.tail, b⟩) ?_))
     refine any_done (by kernel_rfl) ?_
     refine fin_next rfl (run_seq ?_)
     refine run_drawH ((b7, .cells #[str (Fc.b f), str (Fc.r f)] 145 (0, 0)) :: ((b6, .cells #[str (Fc.a f), str (Fc.r f)] 145 (0, 0)) :: ((b5, .cells #[str (Fc.a f)] 9 (0, 0)) :: ((b1, .cells #[.int .i64 (Fc.kind f), str (Fc.a f), str (Fc.b f), str (Fc.r f), .int .i64 (Fc.lo f), .int .i64 (Fc.hi f)] 41 (0, 0)) :: [])))) (by kernel_rfl) ?_
     refine any_sq 6 [0, 1, 2, 3, 4, 5, 6] (by kernel_rfl) (fun _ a b => ⟨Vw.sat.sub (a.perm (pf_takeB pf_here (pf_takeB pf_here (pf_takeB pf_here pf_here)))), b⟩) ?_
     refine sq_val rfl (yld_move rfl) rfl ?_
     refine sq_val rfl (yld_nilck rfl) rfl ?_
     refine sq_val rfl (yld_field Tryz.runUnderlying94 rfl rfl rfl Tryz.sizeOf91) rfl ?_
     refine sq_val rfl (yld_loadO Tryz.isAgg91 rfl (fun v _ h => by exact h.1) rfl) rfl ?_
     refine sq_val rfl (yld_loadS 1 Tryz.isAgg145 Tryz.sizeOf145 rfl rfl rfl) rfl ?_
     refine sq_val rfl (yld_field Tryz.runUnderlying41 rfl rfl rfl Tryz.sizeOf9) rfl ?_
     refine sq_val rfl (yld_load 3 Tryz.isAgg9 rfl rfl rfl) rfl ?_
     refine sq_nil ?_
     refine any_one 7 rfl (by kernel_rfl) ?_
     refine ops_slit Tryz.runUnderlying25 Tryz.sizeOf9 Tryz.zeroValue9 rfl rfl rfl rfl rfl rfl fun b8 => ?_
     refine ops_nil (fin_inv rfl (any_next (fun _ a b => ⟨Vw.sat.sub (a.perm (pf_takeB (pf_cons pf_here) (pf_takeB (pf_cons pf_here) (pf_takeB (pf_cons pf_here) (pf_cons pf_here))))), b⟩) ?_))
     refine any_one 8 rfl (by kernel_rfl) ?_
     have hbb7 := (hyl ((Fc.a f), (Fc.r f))).1
     refine ops_entry (k := ((Fc.a f), (Fc.r f))) keySpot ho Tryz.runUnderlying91 Tryz.zeroValue25 rfl rfl (pf_cons (pf_cons (pf_cons (pf_cons (pf_cons (pf_app (pf_app pf_hereO))))))) rfl fun es7 ce7 ie7 se7 ve7 Hk7 Hx7 ho7 hw7 => ?_
     refine ops_nil (fin_inv rfl (any_next (fun _ a b => ⟨Vw.sat.sub (a.perm (pf_takeB (pf_cons (pf_app (pf_app (pf_cons pf_here)))) (pf_takeB (pf_cons (pf_app (pf_app (pf_cons pf_here)))) (pf_takeB (pf_cons (pf_app (pf_app (pf_cons pf_here)))) (pf_cons (pf_app (pf_app (pf_cons pf_here)))))))), b⟩) ?_))
     refine any_sq 2 [9, 11] (by kernel_rfl) (fun _ a b => ⟨Vw.sat.sub (a.perm (pf_takeB (pf_cons (pf_app (pf_app (pf_cons pf_here)))) (pf_takeB (pf_cons (pf_app (pf_app (pf_cons pf_here)))) (pf_takeB (pf_cons (pf_app (pf_app (pf_cons pf_here)))) (pf_cons (pf_app (pf_app (pf_cons pf_here)))))))), b⟩) ?_
     refine sq_val rfl (yld_extract rfl rfl) rfl ?_
     refine sq_val rfl (yld_extract rfl rfl) rfl ?_
     refine sq_nil ?_
     refine any_one 10 rfl (by kernel_rfl) ?_
     refine ops_append (news := List.flatMap strC [(Fc.b f)]) elt_str hw7 rfl rfl (pf_cons pf_hereO) rfl (own_newsP (pf_cons (pf_app (pf_app pf_here)))) (fun u hu => one_rows strC_one hu) (by simp only [maxLen]; omega) (by omega) rfl fun sv4 Hr4 hr4 => ?_
     have hq4 : SRow 9 1 sv4 (List.length ((lat x.frm ((Fc.a f), (Fc.r f))) ++ [(Fc.b f)])) (List.flatMap strC ((lat x.frm ((Fc.a f), (Fc.r f))) ++ [(Fc.b f)])) Hr4 := by rw [List.length_append, List.flatMap_append]; exact hr4
     refine ops_nil (fin_inv rfl (any_next (fun _ a b => ⟨Vw.sat.sub (a.perm (pf_takeB (pf_app (pf_cons (pf_app (pf_cons pf_here)))) (pf_takeB (pf_app (pf_cons (pf_app (pf_cons pf_here)))) (pf_takeB (pf_app (pf_cons (pf_app (pf_cons pf_here)))) (pf_app (pf_cons (pf_app (pf_cons pf_here)))))))), b⟩) ?_))
     refine any_one 12 rfl (by kernel_rfl) ?_
     refine ops_entryStore (k := ((Fc.a f), (Fc.r f))) (dd := (Fc.b f)) ho7 (by rw [lat_same]; exact hq4) rfl rfl rfl (pf_assoc (pf_takeB (pf_app pf_here) (pf_takeO pf_hereO pf_hereO))) fun H8 hM8 => ?_
     refine ops_nil (fin_inv rfl (any_next (fun _ a b => ⟨Vw.sat.sub (a.perm (pf_takeB (pf_app (pf_cons pf_here)) (pf_takeB (pf_app (pf_cons pf_here)) (pf_takeB (pf_app (pf_cons pf_here)) (pf_app (pf_cons pf_here)))))), b⟩) ?_))
     refine any_done (by kernel_rfl) ?_
     refine fin_next rfl (ok_perm (pf_fB (pf_app pf_here) (pf_fB (pf_app pf_here) (pf_fB (pf_app pf_here) (pf_fB (pf_app pf_here) (pf_f1 (pf_app pf_here)))))) ?_)
     refine run_drawH ((b8, .cells #[str (Fc.b f)] 9 (0, 0)) :: ((b7, .cells #[str (Fc.b f), str (Fc.r f)] 145 (0, 0)) :: ((b6, .cells #[str (Fc.a f), str (Fc.r f)] 145 (0, 0)) :: ((b5, .cells #[str (Fc.a f)] 9 (0, 0)) :: ((b1, .cells #[.int .i64 (Fc.kind f), str (Fc.a f), str (Fc.b f), str (Fc.r f), .int .i64 (Fc.lo f), .int .i64 (Fc.hi f)] 41 (0, 0)) :: []))))) (by kernel_rfl) ?_
     refine any_sq 6 [0, 1, 2, 3, 4, 5, 6] (by kernel_rfl) (fun _ a b => ⟨Vw.sat.sub (a.perm (pf_takeB pf_here (pf_takeB pf_here (pf_takeB pf_here (pf_takeB pf_here pf_here))))), b⟩) ?_
     refine sq_val rfl (yld_move rfl) rfl ?_
     refine sq_val rfl (yld_nilck rfl) rfl ?_
     refine sq_val rfl (yld_field Tryz.runUnderlying94 rfl rfl rfl Tryz.sizeOf91) rfl ?_
     refine sq_val rfl (yld_loadO Tryz.isAgg91 rfl (fun v _ h => by exact h.1) rfl) rfl ?_
     refine sq_val rfl (yld_loadS 1 Tryz.isAgg145 Tryz.sizeOf145 rfl rfl rfl) rfl ?_
     refine sq_val rfl (yld_field Tryz.runUnderlying41 rfl rfl rfl Tryz.sizeOf9) rfl ?_
     refine sq_val rfl (yld_load 4 Tryz.isAgg9 rfl rfl rfl) rfl ?_
     refine sq_nil ?_
     refine any_one 7 rfl (by kernel_rfl) ?_
     refine ops_slit Tryz.runUnderlying25 Tryz.sizeOf9 Tryz.zeroValue9 rfl rfl rfl rfl rfl rfl fun b9 => ?_
     refine ops_nil (fin_inv rfl (any_next (fun _ a b => ⟨Vw.sat.sub (a.perm (pf_takeB (pf_cons pf_here) (pf_takeB (pf_cons pf_here) (pf_takeB (pf_cons pf_here) (pf_takeB (pf_cons pf_here) (pf_cons pf_here)))))), b⟩) ?_))
     refine any_one 8 rfl (by kernel_rfl) ?_
     have hbb9 := (hyl ((Fc.b f), (Fc.r f))).2.1
     refine ops_entry (k := ((Fc.b f), (Fc.r f))) keySpot hi Tryz.runUnderlying91 Tryz.zeroValue25 rfl rfl (pf_cons (pf_cons (pf_cons (pf_cons (pf_cons (pf_cons (pf_app (pf_app (pf_app pf_hereO))))))))) rfl fun es9 ce9 ie9 se9 ve9 Hk9 Hx9 ho9 hw9 => ?_
     refine ops_nil (fin_inv rfl (any_next (fun _ a b => ⟨Vw.sat.sub (a.perm (pf_takeB (pf_cons (pf_app (pf_app (pf_cons pf_here)))) (pf_takeB (pf_cons (pf_app (pf_app (pf_cons pf_here)))) (pf_takeB (pf_cons (pf_app (pf_app (pf_cons pf_here)))) (pf_takeB (pf_cons (pf_app (pf_app (pf_cons pf_here)))) (pf_cons (pf_app (pf_app (pf_cons pf_here))))))))), b⟩) ?_))
     refine any_sq 2 [9, 11] (by kernel_rfl) (fun _ a b => ⟨Vw.sat.sub (a.perm (pf_takeB (pf_cons (pf_app (pf_app (pf_cons pf_here)))) (pf_takeB (pf_cons (pf_app (pf_app (pf_cons pf_here)))) (pf_takeB (pf_cons (pf_app (pf_app (pf_cons pf_here)))) (pf_takeB (pf_cons (pf_app (pf_app (pf_cons pf_here)))) (pf_cons (pf_app (pf_app (pf_cons pf_here))))))))), b⟩) ?_
     refine sq_val rfl (yld_extract rfl rfl) rfl ?_
     refine sq_val rfl (yld_extract rfl rfl) rfl ?_
     refine sq_nil ?_
     refine any_one 10 rfl (by kernel_rfl) ?_
     refine ops_append (news := List.flatMap strC [(Fc.a f)]) elt_str hw9 rfl rfl (pf_cons pf_hereO) rfl (own_newsP (pf_cons (pf_app (pf_app pf_here)))) (fun u hu => one_rows strC_one hu) (by simp only [maxLen]; omega) (by omega) rfl fun sv5 Hr5 hr5 => ?_
     have hq5 : SRow 9 1 sv5 (List.length ((lat x.into ((Fc.b f), (Fc.r f))) ++ [(Fc.a f)])) (List.flatMap strC ((lat x.into ((Fc.b f), (Fc.r f))) ++ [(Fc.a f)])) Hr5 := by rw [List.length_append, List.flatMap_append]; exact hr5
     refine ops_nil (fin_inv rfl (any_next (fun _ a b => ⟨Vw.sat.sub (a.perm (pf_takeB (pf_app (pf_cons (pf_app (pf_cons pf_here)))) (pf_takeB (pf_app (pf_cons (pf_app (pf_cons pf_here)))) (pf_takeB (pf_app (pf_cons (pf_app (pf_cons pf_here)))) (pf_takeB (pf_app (pf_cons (pf_app (pf_cons pf_here)))) (pf_app (pf_cons (pf_app (pf_cons pf_here))))))))), b⟩) ?_))
     refine any_one 12 rfl (by kernel_rfl) ?_
     refine ops_entryStore (k := ((Fc.b f), (Fc.r f))) (dd := (Fc.a f)) ho9 (by rw [lat_same]; exact hq5) rfl rfl rfl (pf_assoc (pf_takeB (pf_app pf_here) (pf_takeO pf_hereO pf_hereO))) fun H10 hM10 => ?_
     refine ops_nil (fin_inv rfl (any_next (fun _ a b => ⟨Vw.sat.sub (a.perm (pf_takeB (pf_app (pf_cons pf_here)) (pf_takeB (pf_app (pf_cons pf_here)) (pf_takeB (pf_app (pf_cons pf_here)) (pf_takeB (pf_app (pf_cons pf_here)) (pf_app (pf_cons pf_here))))))), b⟩) ?_))
     refine any_done (by kernel_rfl) ?_
     refine fin_end rfl ?_
     exact end0 Tryz.results59 ⟨IxH.mk Ha H6 H8 H10 Hr Hm, by have e0 : x.add (decide (f ∈ fm)) f = { x with under := (x.under ++ [((Fc.b f), (Fc.a f))]), frm := (x.frm ++ [(((Fc.a f), (Fc.r f)), (Fc.b f))]), into := (x.into ++ [(((Fc.b f), (Fc.r f)), (Fc.a f))]) } := (by unfold Ix.add; rw [if_neg (by omega), if_pos (by assumption)]); rw [e0]; exact ⟨ha, hM6, hM8, hM10, hr, hm⟩⟩ rfl (pf_takeO (pf_app (pf_cons (pf_cons (pf_cons (pf_cons (pf_cons (pf_cons (pf_app (pf_app pf_hereO))))))))) (pf_takeO (pf_app (pf_cons (pf_cons (pf_cons (pf_cons (pf_cons (pf_cons (pf_app pf_hereO)))))))) (pf_takeO (pf_app (pf_cons (pf_cons (pf_cons (pf_cons (pf_cons (pf_cons pf_hereO))))))) (pf_takeO pf_hereO (pf_takeO (pf_cons (pf_cons (pf_cons (pf_cons (pf_cons (pf_cons pf_hereO)))))) (pf_takeO (pf_cons (pf_cons (pf_cons (pf_cons (pf_cons (pf_cons pf_hereO)))))) (pf_cons (pf_cons (pf_cons (pf_cons (pf_cons pf_lastB))))))))))) (fun _ _ _ => trivial)
    ·
     refine ops_alloc Tryz.zeroValue145 rfl fun b10 => ?_
     refine ops_nil (fin_inv rfl (any_next (fun _ a b => ⟨a.tail, b⟩) ?_))
     refine any_one 10 rfl (by kernel_rfl) ?_
     refine ops_alloc Tryz.zeroValue145 rfl fun b11 => ?_
     refine ops_nil (fin_inv rfl (any_next (fun _ a b => ⟨a.tail.tail, b⟩) ?_))
     refine any_one 12 rfl (by kernel_rfl) ?_
     refine ops_store 0 Tryz.sizeOf145 rfl rfl rfl rfl rfl rfl ?_
     refine ops_nil (fin_inv rfl (any_next (fun _ a b => ⟨a.tail.tail, b⟩) ?_))
     refine any_one 13 rfl (by kernel_rfl) ?_
     refine ops_store 1 Tryz.sizeOf145 rfl rfl rfl rfl rfl rfl ?_
     refine ops_nil (fin_inv rfl (any_next (fun _ a b => ⟨a.tail.tail, b⟩) ?_))
     refine any_done (by kernel_rfl) ?_
     refine fin_next rfl (run_seq ?_)
     refine run_drawH ((b11, .cells #[str (Fc.a f), str (Fc.r f)] 145 (0, 0)) :: ((b10, .cells #[str (Fc.b f), str (Fc.r f)] 145 (0, 0)) :: ((b5, .cells #[str (Fc.a f)] 9 (0, 0)) :: ((b1, .cells #[.int .i64 (Fc.kind f), str (Fc.a f), str (Fc.b f), str (Fc.r f), .int .i64 (Fc.lo f), .int .i64 (Fc.hi f)] 41 (0, 0)) :: [])))) (by kernel_rfl) ?_
     refine any_sq 6 [0, 1, 2, 3, 4, 5, 6] (by kernel_rfl) (fun _ a b => ⟨Vw.sat.sub (a.perm (pf_takeB pf_here (pf_takeB pf_here (pf_takeB pf_here pf_here)))), b⟩) ?_
     refine sq_val rfl (yld_move rfl) rfl ?_
     refine sq_val rfl (yld_nilck rfl) rfl ?_
     refine sq_val rfl (yld_field Tryz.runUnderlying94 rfl rfl rfl Tryz.sizeOf91) rfl ?_
     refine sq_val rfl (yld_loadO Tryz.isAgg91 rfl (fun v _ h => by exact h.1) rfl) rfl ?_
     refine sq_val rfl (yld_loadS 0 Tryz.isAgg145 Tryz.sizeOf145 rfl rfl rfl) rfl ?_
     refine sq_val rfl (yld_field Tryz.runUnderlying41 rfl rfl rfl Tryz.sizeOf9) rfl ?_
     refine sq_val rfl (yld_load 3 Tryz.isAgg9 rfl rfl rfl) rfl ?_
     refine sq_nil ?_
     refine any_one 7 rfl (by kernel_rfl) ?_
     refine ops_slit Tryz.runUnderlying25 Tryz.sizeOf9 Tryz.zeroValue9 rfl rfl rfl rfl rfl rfl fun b12 => ?_
     refine ops_nil (fin_inv rfl (any_next (fun _ a b => ⟨Vw.sat.sub (a.perm (pf_takeB (pf_cons pf_here) (pf_takeB (pf_cons pf_here) (pf_takeB (pf_cons pf_here) (pf_cons pf_here))))), b⟩) ?_))
     refine any_one 8 rfl (by kernel_rfl) ?_
     have hbb11 := (hyl ((Fc.a f), (Fc.r f))).1
     refine ops_entry (k := ((Fc.a f), (Fc.r f))) keySpot ho Tryz.runUnderlying91 Tryz.zeroValue25 rfl rfl (pf_cons (pf_cons (pf_cons (pf_cons (pf_cons (pf_app (pf_app pf_hereO))))))) rfl fun es11 ce11 ie11 se11 ve11 Hk11 Hx11 ho11 hw11 => ?_
     refine ops_nil (fin_inv rfl (any_next (fun _ a b => ⟨Vw.sat.sub (a.perm (pf_takeB (pf_cons (pf_app (pf_app (pf_cons pf_here)))) (pf_takeB (pf_cons (pf_app (pf_app (pf_cons pf_here)))) (pf_takeB (pf_cons (pf_app (pf_app (pf_cons pf_here)))) (pf_cons (pf_app (pf_app (pf_cons pf_here)))))))), b⟩) ?_))
     refine any_sq 2 [9, 11] (by kernel_rfl) (fun _ a b => ⟨Vw.sat.sub (a.perm (pf_takeB (pf_cons (pf_app (pf_app (pf_cons pf_here)))) (pf_takeB (pf_cons (pf_app (pf_app (pf_cons pf_here)))) (pf_takeB (pf_cons (pf_app (pf_app (pf_cons pf_here)))) (pf_cons (pf_app (pf_app (pf_cons pf_here)))))))), b⟩) ?_
     refine sq_val rfl (yld_extract rfl rfl) rfl ?_
     refine sq_val rfl (yld_extract rfl rfl) rfl ?_
     refine sq_nil ?_
     refine any_one 10 rfl (by kernel_rfl) ?_
     refine ops_append (news := List.flatMap strC [(Fc.b f)]) elt_str hw11 rfl rfl (pf_cons pf_hereO) rfl (own_newsP (pf_cons (pf_app (pf_app pf_here)))) (fun u hu => one_rows strC_one hu) (by simp only [maxLen]; omega) (by omega) rfl fun sv6 Hr6 hr6 => ?_
     have hq6 : SRow 9 1 sv6 (List.length ((lat x.frm ((Fc.a f), (Fc.r f))) ++ [(Fc.b f)])) (List.flatMap strC ((lat x.frm ((Fc.a f), (Fc.r f))) ++ [(Fc.b f)])) Hr6 := by rw [List.length_append, List.flatMap_append]; exact hr6
     refine ops_nil (fin_inv rfl (any_next (fun _ a b => ⟨Vw.sat.sub (a.perm (pf_takeB (pf_app (pf_cons (pf_app (pf_cons pf_here)))) (pf_takeB (pf_app (pf_cons (pf_app (pf_cons pf_here)))) (pf_takeB (pf_app (pf_cons (pf_app (pf_cons pf_here)))) (pf_app (pf_cons (pf_app (pf_cons pf_here)))))))), b⟩) ?_))
     refine any_one 12 rfl (by kernel_rfl) ?_
     refine ops_entryStore (k := ((Fc.a f), (Fc.r f))) (dd := (Fc.b f)) ho11 (by rw [lat_same]; exact hq6) rfl rfl rfl (pf_assoc (pf_takeB (pf_app pf_here) (pf_takeO pf_hereO pf_hereO))) fun H12 hM12 => ?_
     refine ops_nil (fin_inv rfl (any_next (fun _ a b => ⟨Vw.sat.sub (a.perm (pf_takeB (pf_app (pf_cons pf_here)) (pf_takeB (pf_app (pf_cons pf_here)) (pf_takeB (pf_app (pf_cons pf_here)) (pf_app (pf_cons pf_here)))))), b⟩) ?_))
     refine any_done (by kernel_rfl) ?_
     refine fin_next rfl (ok_perm (pf_fB (pf_app pf_here) (pf_fB (pf_app pf_here) (pf_fB (pf_app pf_here) (pf_fB (pf_app pf_here) (pf_f1 (pf_app pf_here)))))) ?_)
     refine run_drawH ((b12, .cells #[str (Fc.b f)] 9 (0, 0)) :: ((b11, .cells #[str (Fc.a f), str (Fc.r f)] 145 (0, 0)) :: ((b10, .cells #[str (Fc.b f), str (Fc.r f)] 145 (0, 0)) :: ((b5, .cells #[str (Fc.a f)] 9 (0, 0)) :: ((b1, .cells #[.int .i64 (Fc.kind f), str (Fc.a f), str (Fc.b f), str (Fc.r f), .int .i64 (Fc.lo f), .int .i64 (Fc.hi f)] 41 (0, 0)) :: []))))) (by kernel_rfl) ?_
     refine any_sq 6 [0, 1, 2, 3, 4, 5, 6] (by kernel_rfl) (fun _ a b => ⟨Vw.sat.sub (a.perm (pf_takeB pf_here (pf_takeB pf_here (pf_takeB pf_here (pf_takeB pf_here pf_here))))), b⟩) ?_
     refine sq_val rfl (yld_move rfl) rfl ?_
     refine sq_val rfl (yld_nilck rfl) rfl ?_
     refine sq_val rfl (yld_field Tryz.runUnderlying94 rfl rfl rfl Tryz.sizeOf91) rfl ?_
     refine sq_val rfl (yld_loadO Tryz.isAgg91 rfl (fun v _ h => by exact h.1) rfl) rfl ?_
     refine sq_val rfl (yld_loadS 2 Tryz.isAgg145 Tryz.sizeOf145 rfl rfl rfl) rfl ?_
     refine sq_val rfl (yld_field Tryz.runUnderlying41 rfl rfl rfl Tryz.sizeOf9) rfl ?_
     refine sq_val rfl (yld_load 4 Tryz.isAgg9 rfl rfl rfl) rfl ?_
     refine sq_nil ?_
     refine any_one 7 rfl (by kernel_rfl) ?_
     refine ops_slit Tryz.runUnderlying25 Tryz.sizeOf9 Tryz.zeroValue9 rfl rfl rfl rfl rfl rfl fun b13 => ?_
     refine ops_nil (fin_inv rfl (any_next (fun _ a b => ⟨Vw.sat.sub (a.perm (pf_takeB (pf_cons pf_here) (pf_takeB (pf_cons pf_here) (pf_takeB (pf_cons pf_here) (pf_takeB (pf_cons pf_here) (pf_cons pf_here)))))), b⟩) ?_))
     refine any_one 8 rfl (by kernel_rfl) ?_
     have hbb13 := (hyl ((Fc.b f), (Fc.r f))).2.1
     refine ops_entry (k := ((Fc.b f), (Fc.r f))) keySpot hi Tryz.runUnderlying91 Tryz.zeroValue25 rfl rfl (pf_cons (pf_cons (pf_cons (pf_cons (pf_cons (pf_cons (pf_app (pf_app (pf_app pf_hereO))))))))) rfl fun es13 ce13 ie13 se13 ve13 Hk13 Hx13 ho13 hw13 => ?_
     refine ops_nil (fin_inv rfl (any_next (fun _ a b => ⟨Vw.sat.sub (a.perm (pf_takeB (pf_cons (pf_app (pf_app (pf_cons pf_here)))) (pf_takeB (pf_cons (pf_app (pf_app (pf_cons pf_here)))) (pf_takeB (pf_cons (pf_app (pf_app (pf_cons pf_here)))) (pf_takeB (pf_cons (pf_app (pf_app (pf_cons pf_here)))) (pf_cons (pf_app (pf_app (pf_cons pf_here))))))))), b⟩) ?_))
     refine any_sq 2 [9, 11] (by kernel_rfl) (fun _ a b => ⟨Vw.sat.sub (a.perm (pf_takeB (pf_cons (pf_app (pf_app (pf_cons pf_here)))) (pf_takeB (pf_cons (pf_app (pf_app (pf_cons pf_here)))) (pf_takeB (pf_cons (pf_app (pf_app (pf_cons pf_here)))) (pf_takeB (pf_cons (pf_app (pf_app (pf_cons pf_here)))) (pf_cons (pf_app (pf_app (pf_cons pf_here))))))))), b⟩) ?_
     refine sq_val rfl (yld_extract rfl rfl) rfl ?_
     refine sq_val rfl (yld_extract rfl rfl) rfl ?_
     refine sq_nil ?_
     refine any_one 10 rfl (by kernel_rfl) ?_
     refine ops_append (news := List.flatMap strC [(Fc.a f)]) elt_str hw13 rfl rfl (pf_cons pf_hereO) rfl (own_newsP (pf_cons (pf_app (pf_app pf_here)))) (fun u hu => one_rows strC_one hu) (by simp only [maxLen]; omega) (by omega) rfl fun sv7 Hr7 hr7 => ?_
     have hq7 : SRow 9 1 sv7 (List.length ((lat x.into ((Fc.b f), (Fc.r f))) ++ [(Fc.a f)])) (List.flatMap strC ((lat x.into ((Fc.b f), (Fc.r f))) ++ [(Fc.a f)])) Hr7 := by rw [List.length_append, List.flatMap_append]; exact hr7
     refine ops_nil (fin_inv rfl (any_next (fun _ a b => ⟨Vw.sat.sub (a.perm (pf_takeB (pf_app (pf_cons (pf_app (pf_cons pf_here)))) (pf_takeB (pf_app (pf_cons (pf_app (pf_cons pf_here)))) (pf_takeB (pf_app (pf_cons (pf_app (pf_cons pf_here)))) (pf_takeB (pf_app (pf_cons (pf_app (pf_cons pf_here)))) (pf_app (pf_cons (pf_app (pf_cons pf_here))))))))), b⟩) ?_))
     refine any_one 12 rfl (by kernel_rfl) ?_
     refine ops_entryStore (k := ((Fc.b f), (Fc.r f))) (dd := (Fc.a f)) ho13 (by rw [lat_same]; exact hq7) rfl rfl rfl (pf_assoc (pf_takeB (pf_app pf_here) (pf_takeO pf_hereO pf_hereO))) fun H14 hM14 => ?_
     refine ops_nil (fin_inv rfl (any_next (fun _ a b => ⟨Vw.sat.sub (a.perm (pf_takeB (pf_app (pf_cons pf_here)) (pf_takeB (pf_app (pf_cons pf_here)) (pf_takeB (pf_app (pf_cons pf_here)) (pf_takeB (pf_app (pf_cons pf_here)) (pf_app (pf_cons pf_here))))))), b⟩) ?_))
     refine any_done (by kernel_rfl) ?_
     refine fin_end rfl ?_
     exact end0 Tryz.results59 ⟨IxH.mk Ha H6 H12 H14 Hr Hm, by have e0 : x.add (decide (f ∈ fm)) f = { x with under := (x.under ++ [((Fc.b f), (Fc.a f))]), frm := (x.frm ++ [(((Fc.a f), (Fc.r f)), (Fc.b f))]), into := (x.into ++ [(((Fc.b f), (Fc.r f)), (Fc.a f))]) } := (by unfold Ix.add; rw [if_neg (by omega), if_pos (by assumption)]); rw [e0]; exact ⟨ha, hM6, hM12, hM14, hr, hm⟩⟩ rfl (pf_takeO (pf_app (pf_cons (pf_cons (pf_cons (pf_cons (pf_cons (pf_cons (pf_app (pf_app pf_hereO))))))))) (pf_takeO (pf_app (pf_cons (pf_cons (pf_cons (pf_cons (pf_cons (pf_cons (pf_app pf_hereO)))))))) (pf_takeO (pf_app (pf_cons (pf_cons (pf_cons (pf_cons (pf_cons (pf_cons pf_hereO))))))) (pf_takeO pf_hereO (pf_takeO (pf_cons (pf_cons (pf_cons (pf_cons (pf_cons (pf_cons pf_hereO)))))) (pf_takeO (pf_cons (pf_cons (pf_cons (pf_cons (pf_cons (pf_cons pf_hereO)))))) (pf_cons (pf_cons (pf_cons (pf_cons (pf_cons pf_lastB))))))))))) (fun _ _ _ => trivial)
   ·
    refine ops_slit Tryz.runUnderlying25 Tryz.sizeOf9 Tryz.zeroValue9 rfl rfl rfl rfl rfl rfl fun b14 => ?_
    refine ops_nil (fin_inv rfl (any_next (fun _ a b => ⟨Vw.sat.sub (a.perm (pf_cons (pf_cons pf_here))), b⟩) ?_))
    refine any_one 12 rfl (by kernel_rfl) ?_
    refine ops_val (yld_lookO (k := (Fc.b f)) keyS ho5 Tryz.runUnderlying90 Tryz.zeroValue25 rfl rfl 1 rfl) rfl ?_
    refine ops_nil (fin_inv rfl (any_next (fun _ a b => ⟨Vw.sat.sub (a.perm (pf_cons (pf_cons pf_here))), b⟩) ?_))
    refine any_one 16 rfl (by kernel_rfl) ?_
    refine ops_append (news := List.flatMap strC [(Fc.a f)]) elt_str hw5 rfl rfl (pf_cons (pf_cons (pf_cons pf_hereO))) rfl (own_news 0 rfl) (fun u hu => one_rows strC_one hu) (by simp only [maxLen]; omega) (by omega) rfl fun sv8 Hr8 hr8 => ?_
    have hq8 : SRow 9 1 sv8 (List.length ((lat x.under (Fc.b f)) ++ [(Fc.a f)])) (List.flatMap strC ((lat x.under (Fc.b f)) ++ [(Fc.a f)])) Hr8 := by rw [List.length_append, List.flatMap_append]; exact hr8
    refine ops_nil (fin_inv rfl (any_next (fun _ a b => ⟨Vw.sat.sub (a.perm (pf_app (pf_cons (pf_cons pf_here)))), b⟩) ?_))
    refine any_one 17 rfl (by kernel_rfl) ?_
    refine ops_closeU (k := (Fc.b f)) (dd := (Fc.a f)) keyS ho5 (by rw [lat_same]; exact hq8) (.inr rfl) Tryz.runUnderlying90 rfl rfl rfl (pf_assoc (pf_takeB (pf_app (pf_cons pf_here)) (pf_takeO pf_hereO (pf_cons (pf_cons pf_hereO))))) fun H15 hM15 => ?_
    refine ops_nil (fin_inv rfl (any_next (fun _ a b => ⟨Vw.sat.sub (a.perm (pf_app (pf_cons pf_here))), b⟩) ?_))
    refine any_done (by kernel_rfl) ?_
    refine fin_next rfl (ok_perm (pf_fB (pf_app pf_here) (pf_f1 (pf_app pf_here))) ?_)
    refine run_seq ?_
    refine run_draw' (by kernel_rfl) ?_
    refine any_sq 4 [0, 1, 2, 3, 4, 5, 6, 7, 8, 9] (by kernel_rfl) (fun _ a b => ⟨a, b⟩) ?_
    refine sq_val rfl (yld_field Tryz.runUnderlying41 rfl rfl rfl Tryz.sizeOf9) rfl ?_
    refine sq_val rfl (yld_load 1 Tryz.isAgg9 rfl rfl rfl) rfl ?_
    refine sq_val rfl (yld_field Tryz.runUnderlying41 rfl rfl rfl Tryz.sizeOf9) rfl ?_
    refine sq_val rfl (yld_load 1 Tryz.isAgg9 rfl rfl rfl) rfl ?_
    refine sq_val rfl (yld_struct strt145 rfl rfl) rfl ?_
    refine sq_val rfl (yld_field Tryz.runUnderlying41 rfl rfl rfl Tryz.sizeOf9) rfl ?_
    refine sq_val rfl (yld_load 1 Tryz.isAgg9 rfl rfl rfl) rfl ?_
    refine sq_val rfl (yld_field Tryz.runUnderlying41 rfl rfl rfl Tryz.sizeOf9) rfl ?_
    refine sq_val rfl (yld_load 1 Tryz.isAgg9 rfl rfl rfl) rfl ?_
    refine sq_val rfl (yld_struct strt145 rfl rfl) rfl ?_
    refine sq_nil ?_
    refine any_two 10 11 rfl rfl (by kernel_rfl) ?_ ?_
    ·
     refine ops_alloc Tryz.zeroValue145 rfl fun b15 => ?_
     refine ops_nil (fin_inv rfl (any_next (fun _ a b => ⟨a.tail, b⟩) ?_))
     refine any_one 11 rfl (by kernel_rfl) ?_
     refine ops_alloc Tryz.zeroValue145 rfl fun b16 => ?_
     refine ops_nil (fin_inv rfl (any_next (fun _ a b => ⟨a.tail.tail, b⟩) ?_))
     refine any_one 12 rfl (by kernel_rfl) ?_
     refine ops_store 1 Tryz.sizeOf145 rfl rfl rfl rfl rfl rfl ?_
     refine ops_nil (fin_inv rfl (any_next (fun _ a b => ⟨a.tail.tail, b⟩) ?_))
     refine any_one 13 rfl (by kernel_rfl) ?_
     refine ops_store 0 Tryz.sizeOf145 rfl rfl rfl rfl rfl rfl ?_
     refine ops_nil (fin_inv rfl (any_next (fun _ a b => ⟨a.tail.tail, b⟩) ?_))
     refine any_done (by kernel_rfl) ?_
     refine fin_next rfl (run_seq ?_)
     refine run_drawH ((b16, .cells #[str (Fc.b f), str (Fc.r f)] 145 (0, 0)) :: ((b15, .cells #[str (Fc.a f), str (Fc.r f)] 145 (0, 0)) :: ((b14, .cells #[str (Fc.a f)] 9 (0, 0)) :: ((b1, .cells #[.int .i64 (Fc.kind f), str (Fc.a f), str (Fc.b f), str (Fc.r f), .int .i64 (Fc.lo f), .int .i64 (Fc.hi f)] 41 (0, 0)) :: [])))) (by kernel_rfl) ?_
     refine any_sq 6 [0, 1, 2, 3, 4, 5, 6] (by kernel_rfl) (fun _ a b => ⟨Vw.sat.sub (a.perm (pf_takeB pf_here (pf_takeB pf_here (pf_takeB pf_here pf_here)))), b⟩) ?_
     refine sq_val rfl (yld_move rfl) rfl ?_
     refine sq_val rfl (yld_nilck rfl) rfl ?_
     refine sq_val rfl (yld_field Tryz.runUnderlying94 rfl rfl rfl Tryz.sizeOf91) rfl ?_
     refine sq_val rfl (yld_loadO Tryz.isAgg91 rfl (fun v _ h => by exact h.1) rfl) rfl ?_
     refine sq_val rfl (yld_loadS 1 Tryz.isAgg145 Tryz.sizeOf145 rfl rfl rfl) rfl ?_
     refine sq_val rfl (yld_field Tryz.runUnderlying41 rfl rfl rfl Tryz.sizeOf9) rfl ?_
     refine sq_val rfl (yld_load 3 Tryz.isAgg9 rfl rfl rfl) rfl ?_
     refine sq_nil ?_
     refine any_one 7 rfl (by kernel_rfl) ?_
     refine ops_slit Tryz.runUnderlying25 Tryz.sizeOf9 Tryz.zeroValue9 rfl rfl rfl rfl rfl rfl fun b17 => ?_
     refine ops_nil (fin_inv rfl (any_next (fun _ a b => ⟨Vw.sat.sub (a.perm (pf_takeB (pf_cons pf_here) (pf_takeB (pf_cons pf_here) (pf_takeB (pf_cons pf_here) (pf_cons pf_here))))), b⟩) ?_))
     refine any_one 8 rfl (by kernel_rfl) ?_
     have hbb16 := (hyl ((Fc.a f), (Fc.r f))).1
     refine ops_entry (k := ((Fc.a f), (Fc.r f))) keySpot ho Tryz.runUnderlying91 Tryz.zeroValue25 rfl rfl (pf_cons (pf_cons (pf_cons (pf_cons (pf_cons (pf_app (pf_app pf_hereO))))))) rfl fun es16 ce16 ie16 se16 ve16 Hk16 Hx16 ho16 hw16 => ?_
     refine ops_nil (fin_inv rfl (any_next (fun _ a b => ⟨Vw.sat.sub (a.perm (pf_takeB (pf_cons (pf_app (pf_app (pf_cons pf_here)))) (pf_takeB (pf_cons (pf_app (pf_app (pf_cons pf_here)))) (pf_takeB (pf_cons (pf_app (pf_app (pf_cons pf_here)))) (pf_cons (pf_app (pf_app (pf_cons pf_here)))))))), b⟩) ?_))
     refine any_sq 2 [9, 11] (by kernel_rfl) (fun _ a b => ⟨Vw.sat.sub (a.perm (pf_takeB (pf_cons (pf_app (pf_app (pf_cons pf_here)))) (pf_takeB (pf_cons (pf_app (pf_app (pf_cons pf_here)))) (pf_takeB (pf_cons (pf_app (pf_app (pf_cons pf_here)))) (pf_cons (pf_app (pf_app (pf_cons pf_here)))))))), b⟩) ?_
     refine sq_val rfl (yld_extract rfl rfl) rfl ?_
     refine sq_val rfl (yld_extract rfl rfl) rfl ?_
     refine sq_nil ?_
     refine any_one 10 rfl (by kernel_rfl) ?_
     refine ops_append (news := List.flatMap strC [(Fc.b f)]) elt_str hw16 rfl rfl (pf_cons pf_hereO) rfl (own_newsP (pf_cons (pf_app (pf_app pf_here)))) (fun u hu => one_rows strC_one hu) (by simp only [maxLen]; omega) (by omega) rfl fun sv9 Hr9 hr9 => ?_
     have hq9 : SRow 9 1 sv9 (List.length ((lat x.frm ((Fc.a f), (Fc.r f))) ++ [(Fc.b f)])) (List.flatMap strC ((lat x.frm ((Fc.a f), (Fc.r f))) ++ [(Fc.b f)])) Hr9 := by rw [List.length_append, List.flatMap_append]; exact hr9
     refine ops_nil (fin_inv rfl (any_next (fun _ a b => ⟨Vw.sat.sub (a.perm (pf_takeB (pf_app (pf_cons (pf_app (pf_cons pf_here)))) (pf_takeB (pf_app (pf_cons (pf_app (pf_cons pf_here)))) (pf_takeB (pf_app (pf_cons (pf_app (pf_cons pf_here)))) (pf_app (pf_cons (pf_app (pf_cons pf_here)))))))), b⟩) ?_))
     refine any_one 12 rfl (by kernel_rfl) ?_
     refine ops_entryStore (k := ((Fc.a f), (Fc.r f))) (dd := (Fc.b f)) ho16 (by rw [lat_same]; exact hq9) rfl rfl rfl (pf_assoc (pf_takeB (pf_app pf_here) (pf_takeO pf_hereO pf_hereO))) fun H17 hM17 => ?_
     refine ops_nil (fin_inv rfl (any_next (fun _ a b => ⟨Vw.sat.sub (a.perm (pf_takeB (pf_app (pf_cons pf_here)) (pf_takeB (pf_app (pf_cons pf_here)) (pf_takeB (pf_app (pf_cons pf_here)) (pf_app (pf_cons pf_here)))))), b⟩) ?_))
     refine any_done (by kernel_rfl) ?_
     refine fin_next rfl (ok_perm (pf_fB (pf_app pf_here) (pf_fB (pf_app pf_here) (pf_fB (pf_app pf_here) (pf_fB (pf_app pf_here) (pf_f1 (pf_app pf_here)))))) ?_)
     refine run_drawH ((b17, .cells #[str (Fc.b f)] 9 (0, 0)) :: ((b16, .cells #[str (Fc.b f), str (Fc.r f)] 145 (0, 0)) :: ((b15, .cells #[str (Fc.a f), str (Fc.r f)] 145 (0, 0)) :: ((b14, .cells #[str (Fc.a f)] 9 (0, 0)) :: ((b1, .cells #[.int .i64 (Fc.kind f), str (Fc.a f), str (Fc.b f), str (Fc.r f), .int .i64 (Fc.lo f), .int .i64 (Fc.hi f)] 41 (0, 0)) :: []))))) (by kernel_rfl) ?_
     refine any_sq 6 [0, 1, 2, 3, 4, 5, 6] (by kernel_rfl) (fun _ a b => ⟨Vw.sat.sub (a.perm (pf_takeB pf_here (pf_takeB pf_here (pf_takeB pf_here (pf_takeB pf_here pf_here))))), b⟩) ?_
     refine sq_val rfl (yld_move rfl) rfl ?_
     refine sq_val rfl (yld_nilck rfl) rfl ?_
     refine sq_val rfl (yld_field Tryz.runUnderlying94 rfl rfl rfl Tryz.sizeOf91) rfl ?_
     refine sq_val rfl (yld_loadO Tryz.isAgg91 rfl (fun v _ h => by exact h.1) rfl) rfl ?_
     refine sq_val rfl (yld_loadS 1 Tryz.isAgg145 Tryz.sizeOf145 rfl rfl rfl) rfl ?_
     refine sq_val rfl (yld_field Tryz.runUnderlying41 rfl rfl rfl Tryz.sizeOf9) rfl ?_
     refine sq_val rfl (yld_load 4 Tryz.isAgg9 rfl rfl rfl) rfl ?_
     refine sq_nil ?_
     refine any_one 7 rfl (by kernel_rfl) ?_
     refine ops_slit Tryz.runUnderlying25 Tryz.sizeOf9 Tryz.zeroValue9 rfl rfl rfl rfl rfl rfl fun b18 => ?_
     refine ops_nil (fin_inv rfl (any_next (fun _ a b => ⟨Vw.sat.sub (a.perm (pf_takeB (pf_cons pf_here) (pf_takeB (pf_cons pf_here) (pf_takeB (pf_cons pf_here) (pf_takeB (pf_cons pf_here) (pf_cons pf_here)))))), b⟩) ?_))
     refine any_one 8 rfl (by kernel_rfl) ?_
     have hbb18 := (hyl ((Fc.b f), (Fc.r f))).2.1
     refine ops_entry (k := ((Fc.b f), (Fc.r f))) keySpot hi Tryz.runUnderlying91 Tryz.zeroValue25 rfl rfl (pf_cons (pf_cons (pf_cons (pf_cons (pf_cons (pf_cons (pf_app (pf_app (pf_app pf_hereO))))))))) rfl fun es18 ce18 ie18 se18 ve18 Hk18 Hx18 ho18 hw18 => ?_
     refine ops_nil (fin_inv rfl (any_next (fun _ a b => ⟨Vw.sat.sub (a.perm (pf_takeB (pf_cons (pf_app (pf_app (pf_cons pf_here)))) (pf_takeB (pf_cons (pf_app (pf_app (pf_cons pf_here)))) (pf_takeB (pf_cons (pf_app (pf_app (pf_cons pf_here)))) (pf_takeB (pf_cons (pf_app (pf_app (pf_cons pf_here)))) (pf_cons (pf_app (pf_app (pf_cons pf_here))))))))), b⟩) ?_))
     refine any_sq 2 [9, 11] (by kernel_rfl) (fun _ a b => ⟨Vw.sat.sub (a.perm (pf_takeB (pf_cons (pf_app (pf_app (pf_cons pf_here)))) (pf_takeB (pf_cons (pf_app (pf_app (pf_cons pf_here)))) (pf_takeB (pf_cons (pf_app (pf_app (pf_cons pf_here)))) (pf_takeB (pf_cons (pf_app (pf_app (pf_cons pf_here)))) (pf_cons (pf_app (pf_app (pf_cons pf_here))))))))), b⟩) ?_
     refine sq_val rfl (yld_extract rfl rfl) rfl ?_
     refine sq_val rfl (yld_extract rfl rfl) rfl ?_
     refine sq_nil ?_
     refine any_one 10 rfl (by kernel_rfl) ?_
     refine ops_append (news := List.flatMap strC [(Fc.a f)]) elt_str hw18 rfl rfl (pf_cons pf_hereO) rfl (own_newsP (pf_cons (pf_app (pf_app pf_here)))) (fun u hu => one_rows strC_one hu) (by simp only [maxLen]; omega) (by omega) rfl fun sv10 Hr10 hr10 => ?_
     have hq10 : SRow 9 1 sv10 (List.length ((lat x.into ((Fc.b f), (Fc.r f))) ++ [(Fc.a f)])) (List.flatMap strC ((lat x.into ((Fc.b f), (Fc.r f))) ++ [(Fc.a f)])) Hr10 := by rw [List.length_append, List.flatMap_append]; exact hr10
     refine ops_nil (fin_inv rfl (any_next (fun _ a b => ⟨Vw.sat.sub (a.perm (pf_takeB (pf_app (pf_cons (pf_app (pf_cons pf_here)))) (pf_takeB (pf_app (pf_cons (pf_app (pf_cons pf_here)))) (pf_takeB (pf_app (pf_cons (pf_app (pf_cons pf_here)))) (pf_takeB (pf_app (pf_cons (pf_app (pf_cons pf_here)))) (pf_app (pf_cons (pf_app (pf_cons pf_here))))))))), b⟩) ?_))
     refine any_one 12 rfl (by kernel_rfl) ?_
     refine ops_entryStore (k := ((Fc.b f), (Fc.r f))) (dd := (Fc.a f)) ho18 (by rw [lat_same]; exact hq10) rfl rfl rfl (pf_assoc (pf_takeB (pf_app pf_here) (pf_takeO pf_hereO pf_hereO))) fun H19 hM19 => ?_
     refine ops_nil (fin_inv rfl (any_next (fun _ a b => ⟨Vw.sat.sub (a.perm (pf_takeB (pf_app (pf_cons pf_here)) (pf_takeB (pf_app (pf_cons pf_here)) (pf_takeB (pf_app (pf_cons pf_here)) (pf_takeB (pf_app (pf_cons pf_here)) (pf_app (pf_cons pf_here))))))), b⟩) ?_))
     refine any_done (by kernel_rfl) ?_
     refine fin_end rfl ?_
     exact end0 Tryz.results59 ⟨IxH.mk Ha H15 H17 H19 Hr Hm, by have e0 : x.add (decide (f ∈ fm)) f = { x with under := (x.under ++ [((Fc.b f), (Fc.a f))]), frm := (x.frm ++ [(((Fc.a f), (Fc.r f)), (Fc.b f))]), into := (x.into ++ [(((Fc.b f), (Fc.r f)), (Fc.a f))]) } := (by unfold Ix.add; rw [if_neg (by omega), if_pos (by assumption)]); rw [e0]; exact ⟨ha, hM15, hM17, hM19, hr, hm⟩⟩ rfl (pf_takeO (pf_app (pf_cons (pf_cons (pf_cons (pf_cons (pf_cons (pf_cons (pf_app (pf_app pf_hereO))))))))) (pf_takeO (pf_app (pf_cons (pf_cons (pf_cons (pf_cons (pf_cons (pf_cons (pf_app pf_hereO)))))))) (pf_takeO (pf_app (pf_cons (pf_cons (pf_cons (pf_cons (pf_cons (pf_cons pf_hereO))))))) (pf_takeO pf_hereO (pf_takeO (pf_cons (pf_cons (pf_cons (pf_cons (pf_cons (pf_cons pf_hereO)))))) (pf_takeO (pf_cons (pf_cons (pf_cons (pf_cons (pf_cons (pf_cons pf_hereO)))))) (pf_cons (pf_cons (pf_cons (pf_cons (pf_cons pf_lastB))))))))))) (fun _ _ _ => trivial)
    ·
     refine ops_alloc Tryz.zeroValue145 rfl fun b19 => ?_
     refine ops_nil (fin_inv rfl (any_next (fun _ a b => ⟨a.tail, b⟩) ?_))
     refine any_one 10 rfl (by kernel_rfl) ?_
     refine ops_alloc Tryz.zeroValue145 rfl fun b20 => ?_
     refine ops_nil (fin_inv rfl (any_next (fun _ a b => ⟨a.tail.tail, b⟩) ?_))
     refine any_one 12 rfl (by kernel_rfl) ?_
     refine ops_store 0 Tryz.sizeOf145 rfl rfl rfl rfl rfl rfl ?_
     refine ops_nil (fin_inv rfl (any_next (fun _ a b => ⟨a.tail.tail, b⟩) ?_))
     refine any_one 13 rfl (by kernel_rfl) ?_
     refine ops_store 1 Tryz.sizeOf145 rfl rfl rfl rfl rfl rfl ?_
     refine ops_nil (fin_inv rfl (any_next (fun _ a b => ⟨a.tail.tail, b⟩) ?_))
     refine any_done (by kernel_rfl) ?_
     refine fin_next rfl (run_seq ?_)
     refine run_drawH ((b20, .cells #[str (Fc.a f), str (Fc.r f)] 145 (0, 0)) :: ((b19, .cells #[str (Fc.b f), str (Fc.r f)] 145 (0, 0)) :: ((b14, .cells #[str (Fc.a f)] 9 (0, 0)) :: ((b1, .cells #[.int .i64 (Fc.kind f), str (Fc.a f), str (Fc.b f), str (Fc.r f), .int .i64 (Fc.lo f), .int .i64 (Fc.hi f)] 41 (0, 0)) :: [])))) (by kernel_rfl) ?_
     refine any_sq 6 [0, 1, 2, 3, 4, 5, 6] (by kernel_rfl) (fun _ a b => ⟨Vw.sat.sub (a.perm (pf_takeB pf_here (pf_takeB pf_here (pf_takeB pf_here pf_here)))), b⟩) ?_
     refine sq_val rfl (yld_move rfl) rfl ?_
     refine sq_val rfl (yld_nilck rfl) rfl ?_
     refine sq_val rfl (yld_field Tryz.runUnderlying94 rfl rfl rfl Tryz.sizeOf91) rfl ?_
     refine sq_val rfl (yld_loadO Tryz.isAgg91 rfl (fun v _ h => by exact h.1) rfl) rfl ?_
     refine sq_val rfl (yld_loadS 0 Tryz.isAgg145 Tryz.sizeOf145 rfl rfl rfl) rfl ?_
     refine sq_val rfl (yld_field Tryz.runUnderlying41 rfl rfl rfl Tryz.sizeOf9) rfl ?_
     refine sq_val rfl (yld_load 3 Tryz.isAgg9 rfl rfl rfl) rfl ?_
     refine sq_nil ?_
     refine any_one 7 rfl (by kernel_rfl) ?_
     refine ops_slit Tryz.runUnderlying25 Tryz.sizeOf9 Tryz.zeroValue9 rfl rfl rfl rfl rfl rfl fun b21 => ?_
     refine ops_nil (fin_inv rfl (any_next (fun _ a b => ⟨Vw.sat.sub (a.perm (pf_takeB (pf_cons pf_here) (pf_takeB (pf_cons pf_here) (pf_takeB (pf_cons pf_here) (pf_cons pf_here))))), b⟩) ?_))
     refine any_one 8 rfl (by kernel_rfl) ?_
     have hbb20 := (hyl ((Fc.a f), (Fc.r f))).1
     refine ops_entry (k := ((Fc.a f), (Fc.r f))) keySpot ho Tryz.runUnderlying91 Tryz.zeroValue25 rfl rfl (pf_cons (pf_cons (pf_cons (pf_cons (pf_cons (pf_app (pf_app pf_hereO))))))) rfl fun es20 ce20 ie20 se20 ve20 Hk20 Hx20 ho20 hw20 => ?_
     refine ops_nil (fin_inv rfl (any_next (fun _ a b => ⟨Vw.sat.sub (a.perm (pf_takeB (pf_cons (pf_app (pf_app (pf_cons pf_here)))) (pf_takeB (pf_cons (pf_app (pf_app (pf_cons pf_here)))) (pf_takeB (pf_cons (pf_app (pf_app (pf_cons pf_here)))) (pf_cons (pf_app (pf_app (pf_cons pf_here)))))))), b⟩) ?_))
     refine any_sq 2 [9, 11] (by kernel_rfl) (fun _ a b => ⟨Vw.sat.sub (a.perm (pf_takeB (pf_cons (pf_app (pf_app (pf_cons pf_here)))) (pf_takeB (pf_cons (pf_app (pf_app (pf_cons pf_here)))) (pf_takeB (pf_cons (pf_app (pf_app (pf_cons pf_here)))) (pf_cons (pf_app (pf_app (pf_cons pf_here)))))))), b⟩) ?_
     refine sq_val rfl (yld_extract rfl rfl) rfl ?_
     refine sq_val rfl (yld_extract rfl rfl) rfl ?_
     refine sq_nil ?_
     refine any_one 10 rfl (by kernel_rfl) ?_
     refine ops_append (news := List.flatMap strC [(Fc.b f)]) elt_str hw20 rfl rfl (pf_cons pf_hereO) rfl (own_newsP (pf_cons (pf_app (pf_app pf_here)))) (fun u hu => one_rows strC_one hu) (by simp only [maxLen]; omega) (by omega) rfl fun sv11 Hr11 hr11 => ?_
     have hq11 : SRow 9 1 sv11 (List.length ((lat x.frm ((Fc.a f), (Fc.r f))) ++ [(Fc.b f)])) (List.flatMap strC ((lat x.frm ((Fc.a f), (Fc.r f))) ++ [(Fc.b f)])) Hr11 := by rw [List.length_append, List.flatMap_append]; exact hr11
     refine ops_nil (fin_inv rfl (any_next (fun _ a b => ⟨Vw.sat.sub (a.perm (pf_takeB (pf_app (pf_cons (pf_app (pf_cons pf_here)))) (pf_takeB (pf_app (pf_cons (pf_app (pf_cons pf_here)))) (pf_takeB (pf_app (pf_cons (pf_app (pf_cons pf_here)))) (pf_app (pf_cons (pf_app (pf_cons pf_here)))))))), b⟩) ?_))
     refine any_one 12 rfl (by kernel_rfl) ?_
     refine ops_entryStore (k := ((Fc.a f), (Fc.r f))) (dd := (Fc.b f)) ho20 (by rw [lat_same]; exact hq11) rfl rfl rfl (pf_assoc (pf_takeB (pf_app pf_here) (pf_takeO pf_hereO pf_hereO))) fun H21 hM21 => ?_
     refine ops_nil (fin_inv rfl (any_next (fun _ a b => ⟨Vw.sat.sub (a.perm (pf_takeB (pf_app (pf_cons pf_here)) (pf_takeB (pf_app (pf_cons pf_here)) (pf_takeB (pf_app (pf_cons pf_here)) (pf_app (pf_cons pf_here)))))), b⟩) ?_))
     refine any_done (by kernel_rfl) ?_
     refine fin_next rfl (ok_perm (pf_fB (pf_app pf_here) (pf_fB (pf_app pf_here) (pf_fB (pf_app pf_here) (pf_fB (pf_app pf_here) (pf_f1 (pf_app pf_here)))))) ?_)
     refine run_drawH ((b21, .cells #[str (Fc.b f)] 9 (0, 0)) :: ((b20, .cells #[str (Fc.a f), str (Fc.r f)] 145 (0, 0)) :: ((b19, .cells #[str (Fc.b f), str (Fc.r f)] 145 (0, 0)) :: ((b14, .cells #[str (Fc.a f)] 9 (0, 0)) :: ((b1, .cells #[.int .i64 (Fc.kind f), str (Fc.a f), str (Fc.b f), str (Fc.r f), .int .i64 (Fc.lo f), .int .i64 (Fc.hi f)] 41 (0, 0)) :: []))))) (by kernel_rfl) ?_
     refine any_sq 6 [0, 1, 2, 3, 4, 5, 6] (by kernel_rfl) (fun _ a b => ⟨Vw.sat.sub (a.perm (pf_takeB pf_here (pf_takeB pf_here (pf_takeB pf_here (pf_takeB pf_here pf_here))))), b⟩) ?_
     refine sq_val rfl (yld_move rfl) rfl ?_
     refine sq_val rfl (yld_nilck rfl) rfl ?_
     refine sq_val rfl (yld_field Tryz.runUnderlying94 rfl rfl rfl Tryz.sizeOf91) rfl ?_
     refine sq_val rfl (yld_loadO Tryz.isAgg91 rfl (fun v _ h => by exact h.1) rfl) rfl ?_
     refine sq_val rfl (yld_loadS 2 Tryz.isAgg145 Tryz.sizeOf145 rfl rfl rfl) rfl ?_
     refine sq_val rfl (yld_field Tryz.runUnderlying41 rfl rfl rfl Tryz.sizeOf9) rfl ?_
     refine sq_val rfl (yld_load 4 Tryz.isAgg9 rfl rfl rfl) rfl ?_
     refine sq_nil ?_
     refine any_one 7 rfl (by kernel_rfl) ?_
     refine ops_slit Tryz.runUnderlying25 Tryz.sizeOf9 Tryz.zeroValue9 rfl rfl rfl rfl rfl rfl fun b22 => ?_
     refine ops_nil (fin_inv rfl (any_next (fun _ a b => ⟨Vw.sat.sub (a.perm (pf_takeB (pf_cons pf_here) (pf_takeB (pf_cons pf_here) (pf_takeB (pf_cons pf_here) (pf_takeB (pf_cons pf_here) (pf_cons pf_here)))))), b⟩) ?_))
     refine any_one 8 rfl (by kernel_rfl) ?_
     have hbb22 := (hyl ((Fc.b f), (Fc.r f))).2.1
     refine ops_entry (k := ((Fc.b f), (Fc.r f))) keySpot hi Tryz.runUnderlying91 Tryz.zeroValue25 rfl rfl (pf_cons (pf_cons (pf_cons (pf_cons (pf_cons (pf_cons (pf_app (pf_app (pf_app pf_hereO))))))))) rfl fun es22 ce22 ie22 se22 ve22 Hk22 Hx22 ho22 hw22 => ?_
     refine ops_nil (fin_inv rfl (any_next (fun _ a b => ⟨Vw.sat.sub (a.perm (pf_takeB (pf_cons (pf_app (pf_app (pf_cons pf_here)))) (pf_takeB (pf_cons (pf_app (pf_app (pf_cons pf_here)))) (pf_takeB (pf_cons (pf_app (pf_app (pf_cons pf_here)))) (pf_takeB (pf_cons (pf_app (pf_app (pf_cons pf_here)))) (pf_cons (pf_app (pf_app (pf_cons pf_here))))))))), b⟩) ?_))
     refine any_sq 2 [9, 11] (by kernel_rfl) (fun _ a b => ⟨Vw.sat.sub (a.perm (pf_takeB (pf_cons (pf_app (pf_app (pf_cons pf_here)))) (pf_takeB (pf_cons (pf_app (pf_app (pf_cons pf_here)))) (pf_takeB (pf_cons (pf_app (pf_app (pf_cons pf_here)))) (pf_takeB (pf_cons (pf_app (pf_app (pf_cons pf_here)))) (pf_cons (pf_app (pf_app (pf_cons pf_here))))))))), b⟩) ?_
     refine sq_val rfl (yld_extract rfl rfl) rfl ?_
     refine sq_val rfl (yld_extract rfl rfl) rfl ?_
     refine sq_nil ?_
     refine any_one 10 rfl (by kernel_rfl) ?_
     refine ops_append (news := List.flatMap strC [(Fc.a f)]) elt_str hw22 rfl rfl (pf_cons pf_hereO) rfl (own_newsP (pf_cons (pf_app (pf_app pf_here)))) (fun u hu => one_rows strC_one hu) (by simp only [maxLen]; omega) (by omega) rfl fun sv12 Hr12 hr12 => ?_
     have hq12 : SRow 9 1 sv12 (List.length ((lat x.into ((Fc.b f), (Fc.r f))) ++ [(Fc.a f)])) (List.flatMap strC ((lat x.into ((Fc.b f), (Fc.r f))) ++ [(Fc.a f)])) Hr12 := by rw [List.length_append, List.flatMap_append]; exact hr12
     refine ops_nil (fin_inv rfl (any_next (fun _ a b => ⟨Vw.sat.sub (a.perm (pf_takeB (pf_app (pf_cons (pf_app (pf_cons pf_here)))) (pf_takeB (pf_app (pf_cons (pf_app (pf_cons pf_here)))) (pf_takeB (pf_app (pf_cons (pf_app (pf_cons pf_here)))) (pf_takeB (pf_app (pf_cons (pf_app (pf_cons pf_here)))) (pf_app (pf_cons (pf_app (pf_cons pf_here))))))))), b⟩) ?_))
     refine any_one 12 rfl (by kernel_rfl) ?_
     refine ops_entryStore (k := ((Fc.b f), (Fc.r f))) (dd := (Fc.a f)) ho22 (by rw [lat_same]; exact hq12) rfl rfl rfl (pf_assoc (pf_takeB (pf_app pf_here) (pf_takeO pf_hereO pf_hereO))) fun H23 hM23 => ?_
     refine ops_nil (fin_inv rfl (any_next (fun _ a b => ⟨Vw.sat.sub (a.perm (pf_takeB (pf_app (pf_cons pf_here)) (pf_takeB (pf_app (pf_cons pf_here)) (pf_takeB (pf_app (pf_cons pf_here)) (pf_takeB (pf_app (pf_cons pf_here)) (pf_app (pf_cons pf_here))))))), b⟩) ?_))
     refine any_done (by kernel_rfl) ?_
     refine fin_end rfl ?_
     exact end0 Tryz.results59 ⟨IxH.mk Ha H15 H21 H23 Hr Hm, by have e0 : x.add (decide (f ∈ fm)) f = { x with under := (x.under ++ [((Fc.b f), (Fc.a f))]), frm := (x.frm ++ [(((Fc.a f), (Fc.r f)), (Fc.b f))]), into := (x.into ++ [(((Fc.b f), (Fc.r f)), (Fc.a f))]) } := (by unfold Ix.add; rw [if_neg (by omega), if_pos (by assumption)]); rw [e0]; exact ⟨ha, hM15, hM21, hM23, hr, hm⟩⟩ rfl (pf_takeO (pf_app (pf_cons (pf_cons (pf_cons (pf_cons (pf_cons (pf_cons (pf_app (pf_app pf_hereO))))))))) (pf_takeO (pf_app (pf_cons (pf_cons (pf_cons (pf_cons (pf_cons (pf_cons (pf_app pf_hereO)))))))) (pf_takeO (pf_app (pf_cons (pf_cons (pf_cons (pf_cons (pf_cons (pf_cons pf_hereO))))))) (pf_takeO pf_hereO (pf_takeO (pf_cons (pf_cons (pf_cons (pf_cons (pf_cons (pf_cons pf_hereO)))))) (pf_takeO (pf_cons (pf_cons (pf_cons (pf_cons (pf_cons (pf_cons pf_hereO)))))) (pf_cons (pf_cons (pf_cons (pf_cons (pf_cons pf_lastB))))))))))) (fun _ _ _ => trivial)
 ·
  replace hr1 := eq_of_beq hr1
  refine run_cond_t rfl ?_
  have hbb24 := (hxl (Fc.a f)).1
  refine ok_open keyS (Fc.a f) ha (pf_cons pf_hereO) fun es24 ce24 ve24 Hk24 Hx24 hw24 ho24 => ?_
  refine ok_perm (pf_fB pf_here (pf_f1 (pf_app (pf_app pf_here)))) ?_
  refine run_drawH ((b1, .cells #[.int .i64 (Fc.kind f), str (Fc.a f), str (Fc.b f), str (Fc.r f), .int .i64 (Fc.lo f), .int .i64 (Fc.hi f)] 41 (0, 0)) :: []) (by kernel_rfl) ?_
  refine any_sq 4 [0, 1, 2, 3, 4, 5, 6, 7, 8, 9, 10, 11, 13, 14] (by kernel_rfl) (fun _ a b => ⟨Vw.sat.sub (a.perm (pf_cons pf_here)), b⟩) ?_
  refine sq_val rfl (yld_move rfl) rfl ?_
  refine sq_val rfl (yld_nilck rfl) rfl ?_
  refine sq_val rfl (yld_field Tryz.runUnderlying94 rfl rfl rfl Tryz.sizeOf90) rfl ?_
  refine sq_val rfl (yld_loadO Tryz.isAgg90 rfl (fun v _ h => by exact h.1) rfl) rfl ?_
  refine sq_val rfl (yld_field Tryz.runUnderlying41 rfl rfl rfl Tryz.sizeOf9) rfl ?_
  refine sq_val rfl (yld_load 0 Tryz.isAgg9 rfl rfl rfl) rfl ?_
  refine sq_val rfl (yld_move rfl) rfl ?_
  refine sq_val rfl (yld_nilck rfl) rfl ?_
  refine sq_val rfl (yld_field Tryz.runUnderlying94 rfl rfl rfl Tryz.sizeOf90) rfl ?_
  refine sq_val rfl (yld_loadO Tryz.isAgg90 rfl (fun v _ h => by exact h.1) rfl) rfl ?_
  refine sq_val rfl (yld_field Tryz.runUnderlying41 rfl rfl rfl Tryz.sizeOf9) rfl ?_
  refine sq_val rfl (yld_load 0 Tryz.isAgg9 rfl rfl rfl) rfl ?_
  refine sq_val rfl (yld_field Tryz.runUnderlying41 rfl rfl rfl Tryz.sizeOf9) rfl ?_
  refine sq_val rfl (yld_load 0 Tryz.isAgg9 rfl rfl rfl) rfl ?_
  refine sq_nil ?_
  refine any_two 12 15 rfl rfl (by kernel_rfl) ?_ ?_
  ·
   refine ops_val (yld_lookO (k := (Fc.a f)) keyS ho24 Tryz.runUnderlying90 Tryz.zeroValue25 rfl rfl 0 rfl) rfl ?_
   refine ops_nil (fin_inv rfl (any_next (fun _ a b => ⟨Vw.sat.sub (a.perm (pf_cons pf_here)), b⟩) ?_))
   refine any_one 15 rfl (by kernel_rfl) ?_
   refine ops_slit Tryz.runUnderlying25 Tryz.sizeOf9 Tryz.zeroValue9 rfl rfl rfl rfl rfl rfl fun b23 => ?_
   refine ops_nil (fin_inv rfl (any_next (fun _ a b => ⟨Vw.sat.sub (a.perm (pf_cons (pf_cons pf_here))), b⟩) ?_))
   refine any_one 16 rfl (by kernel_rfl) ?_
   refine ops_append (news := List.flatMap strC [(Fc.b f)]) elt_str hw24 rfl rfl (pf_cons (pf_cons (pf_cons pf_hereO))) rfl (own_news 0 rfl) (fun u hu => one_rows strC_one hu) (by simp only [maxLen]; omega) (by omega) rfl fun sv13 Hr13 hr13 => ?_
   have hq13 : SRow 9 1 sv13 (List.length ((lat x.above (Fc.a f)) ++ [(Fc.b f)])) (List.flatMap strC ((lat x.above (Fc.a f)) ++ [(Fc.b f)])) Hr13 := by rw [List.length_append, List.flatMap_append]; exact hr13
   refine ops_nil (fin_inv rfl (any_next (fun _ a b => ⟨Vw.sat.sub (a.perm (pf_app (pf_cons (pf_cons pf_here)))), b⟩) ?_))
   refine any_one 17 rfl (by kernel_rfl) ?_
   refine ops_closeU (k := (Fc.a f)) (dd := (Fc.b f)) keyS ho24 (by rw [lat_same]; exact hq13) (.inr rfl) Tryz.runUnderlying90 rfl rfl rfl (pf_assoc (pf_takeB (pf_app (pf_cons pf_here)) (pf_takeO pf_hereO (pf_cons (pf_cons pf_hereO))))) fun H25 hM25 => ?_
   refine ops_nil (fin_inv rfl (any_next (fun _ a b => ⟨Vw.sat.sub (a.perm (pf_app (pf_cons pf_here))), b⟩) ?_))
   refine any_done (by kernel_rfl) ?_
   refine fin_end rfl ?_
   exact end0 Tryz.results59 ⟨IxH.mk H25 Hu Ho Hi Hr Hm, by have e0 : x.add (decide (f ∈ fm)) f = { x with above := (x.above ++ [((Fc.a f), (Fc.b f))]) } := (by unfold Ix.add; rw [if_pos (by assumption)]); rw [e0]; exact ⟨hM25, hu, ho, hi, hr, hm⟩⟩ rfl (pf_takeO pf_hereO (pf_takeO (pf_cons (pf_cons pf_hereO)) (pf_takeO (pf_cons (pf_cons pf_hereO)) (pf_takeO (pf_cons (pf_cons pf_hereO)) (pf_takeO (pf_cons (pf_cons pf_hereO)) (pf_takeO (pf_cons (pf_cons pf_hereO)) (pf_cons pf_lastB))))))) (fun _ _ _ => trivial)
  ·
   refine ops_slit Tryz.runUnderlying25 Tryz.sizeOf9 Tryz.zeroValue9 rfl rfl rfl rfl rfl rfl fun b24 => ?_
   refine ops_nil (fin_inv rfl (any_next (fun _ a b => ⟨Vw.sat.sub (a.perm (pf_cons (pf_cons pf_here))), b⟩) ?_))
   refine any_one 12 rfl (by kernel_rfl) ?_
   refine ops_val (yld_lookO (k := (Fc.a f)) keyS ho24 Tryz.runUnderlying90 Tryz.zeroValue25 rfl rfl 1 rfl) rfl ?_
   refine ops_nil (fin_inv rfl (any_next (fun _ a b => ⟨Vw.sat.sub (a.perm (pf_cons (pf_cons pf_here))), b⟩) ?_))
   refine any_one 16 rfl (by kernel_rfl) ?_
   refine ops_append (news := List.flatMap strC [(Fc.b f)]) elt_str hw24 rfl rfl (pf_cons (pf_cons (pf_cons pf_hereO))) rfl (own_news 0 rfl) (fun u hu => one_rows strC_one hu) (by simp only [maxLen]; omega) (by omega) rfl fun sv14 Hr14 hr14 => ?_
   have hq14 : SRow 9 1 sv14 (List.length ((lat x.above (Fc.a f)) ++ [(Fc.b f)])) (List.flatMap strC ((lat x.above (Fc.a f)) ++ [(Fc.b f)])) Hr14 := by rw [List.length_append, List.flatMap_append]; exact hr14
   refine ops_nil (fin_inv rfl (any_next (fun _ a b => ⟨Vw.sat.sub (a.perm (pf_app (pf_cons (pf_cons pf_here)))), b⟩) ?_))
   refine any_one 17 rfl (by kernel_rfl) ?_
   refine ops_closeU (k := (Fc.a f)) (dd := (Fc.b f)) keyS ho24 (by rw [lat_same]; exact hq14) (.inr rfl) Tryz.runUnderlying90 rfl rfl rfl (pf_assoc (pf_takeB (pf_app (pf_cons pf_here)) (pf_takeO pf_hereO (pf_cons (pf_cons pf_hereO))))) fun H26 hM26 => ?_
   refine ops_nil (fin_inv rfl (any_next (fun _ a b => ⟨Vw.sat.sub (a.perm (pf_app (pf_cons pf_here))), b⟩) ?_))
   refine any_done (by kernel_rfl) ?_
   refine fin_end rfl ?_
   exact end0 Tryz.results59 ⟨IxH.mk H26 Hu Ho Hi Hr Hm, by have e0 : x.add (decide (f ∈ fm)) f = { x with above := (x.above ++ [((Fc.a f), (Fc.b f))]) } := (by unfold Ix.add; rw [if_pos (by assumption)]); rw [e0]; exact ⟨hM26, hu, ho, hi, hr, hm⟩⟩ rfl (pf_takeO pf_hereO (pf_takeO (pf_cons (pf_cons pf_hereO)) (pf_takeO (pf_cons (pf_cons pf_hereO)) (pf_takeO (pf_cons (pf_cons pf_hereO)) (pf_takeO (pf_cons (pf_cons pf_hereO)) (pf_takeO (pf_cons (pf_cons pf_hereO)) (pf_cons pf_lastB))))))) (fun _ _ _ => trivial)
end Go.Proofs.YtpdbbglpbngeiaaGreatDoor
namespace Go.Proofs.YtpdbbglpbngeiaaGreatDoor
open Go Go.Sx Go.Proofs
set_option linter.unusedVariables false
attribute [local irreducible] Code.wp wpList wpAnyH
open Go.Vs
theorem put_c (x : Pc) (ro at' : Str) (pm : List (Ky × Pc)) (bx bg : Nat) (g pb kb ab ub ob ib rb sb fb : Nat) (ev : Value) (lv : Value) (Hm : Hp) (hm : MLog Ky.val Pc.cells 47 10 pm pb Hm) (hpl : pm.length ≤ 1000000000) : Tri Tryz.prog 142 #[str ro, str at', .pointer (some ⟨bx, 0, none⟩), .pointer (some ⟨bg, 0, none⟩)] ((bx, .cells #[.int .i64 (Pc.kind x), str (Pc.a x), str (Pc.b x), str (Pc.c x), str (Pc.r x), str (Pc.s x), str (Pc.t x), .int .i64 (Pc.lo x), .int .i64 (Pc.hi x), .int .i64 (Pc.frm x)] 47 (0, 0)) :: (bg, .cells #[.pointer (some ⟨g, 0, none⟩)] 85 (0, 0)) :: (g, .cells #[.map (some pb), lv, .map (some kb), ev, .map (some ab), .map (some ub), .map (some ob), .map (some ib), .map (some rb), .map (some sb), .map (some fb)] 94 (0, 0)) :: Hm) [] (fun _ : {H : Hp // MLog Ky.val Pc.cells 47 10 (pm ++ [((Ky.mk (Pc.kind x) ro at'), x)]) pb H} => .tuple #[]) (fun y => (bx, .cells #[.int .i64 (Pc.kind x), str (Pc.a x), str (Pc.b x), str (Pc.c x), str (Pc.r x), str (Pc.s x), str (Pc.t x), .int .i64 (Pc.lo x), .int .i64 (Pc.hi x), .int .i64 (Pc.frm x)] 47 (0, 0)) :: (bg, .cells #[.pointer (some ⟨g, 0, none⟩)] 85 (0, 0)) :: (g, .cells #[.map (some pb), lv, .map (some kb), ev, .map (some ab), .map (some ub), .map (some ob), .map (some ib), .map (some rb), .map (some sb), .map (some fb)] 94 (0, 0)) :: y.1) (fun _ => []) := by
  refine tri_of_body Tryz.func142 rfl rfl Tryz.ntmps142 rfl fun v0 => ?_
  refine run_seq (run_region (ops_val (yld_field Tryz.runUnderlying47 rfl rfl rfl Tryz.sizeOf3) rfl ?_))
  refine ops_val (yld_load 0 Tryz.isAgg3 rfl rfl rfl) rfl ?_
  refine ops_val (yld_move rfl) rfl (ops_val (yld_move rfl) rfl (ops_val (yld_struct strt171 rfl rfl) rfl ?_))
  refine ops_alloc Tryz.zeroValue171 rfl fun b1 => ?_
  refine ops_store 0 Tryz.sizeOf171 rfl rfl rfl rfl rfl rfl ?_
  refine ops_nil (fin_next rfl ?_)
  refine run_drawH ((b1, .cells #[.int .i64 (Pc.kind x), str ro, str at'] 171 (0, 0)) :: ((bx, .cells #[.int .i64 (Pc.kind x), str (Pc.a x), str (Pc.b x), str (Pc.c x), str (Pc.r x), str (Pc.s x), str (Pc.t x), .int .i64 (Pc.lo x), .int .i64 (Pc.hi x), .int .i64 (Pc.frm x)] 47 (0, 0)) :: ((bg, .cells #[.pointer (some ⟨g, 0, none⟩)] 85 (0, 0)) :: ((g, .cells #[.map (some pb), lv, .map (some kb), ev, .map (some ab), .map (some ub), .map (some ob), .map (some ib), .map (some rb), .map (some sb), .map (some fb)] 94 (0, 0)) :: [])))) (by kernel_rfl) ?_
  refine any_sq 6 [0, 1, 2, 3, 4, 5] (by kernel_rfl) (fun _ a b => ⟨Vw.sat.sub (a.perm (pf_takeB pf_here (pf_takeB pf_here (pf_takeB pf_here pf_here)))), b⟩) ?_
  refine sq_val rfl (yld_load 2 Tryz.isAgg85 rfl rfl rfl) rfl ?_
  refine sq_val rfl (yld_nilck rfl) rfl ?_
  refine sq_val rfl (yld_field Tryz.runUnderlying94 rfl rfl rfl Tryz.sizeOf87) rfl ?_
  refine sq_val rfl (yld_load 3 Tryz.isAgg87 rfl rfl rfl) rfl ?_
  refine sq_val rfl (yld_loadS 0 Tryz.isAgg171 Tryz.sizeOf171 rfl rfl rfl) rfl ?_
  refine sq_val rfl (yld_loadS 1 Tryz.isAgg47 Tryz.sizeOf47 rfl rfl rfl) rfl ?_
  refine sq_nil ?_
  refine any_one 6 rfl (by kernel_rfl) ?_
  refine ops_slit Tryz.runUnderlying22 Tryz.sizeOf47 Tryz.zeroValue47 rfl rfl rfl rfl rfl rfl fun b2 => ?_
  refine ops_nil (fin_inv rfl (any_next (fun _ a b => ⟨Vw.sat.sub (a.perm (pf_takeB (pf_cons pf_here) (pf_takeB (pf_cons pf_here) (pf_takeB (pf_cons pf_here) (pf_cons pf_here))))), b⟩) ?_))
  refine any_one 7 rfl (by kernel_rfl) ?_
  have hbb1 := Nat.le_trans (lat_len pm (Ky.mk (Pc.kind x) ro at')) hpl
  refine ops_entry (k := (Ky.mk (Pc.kind x) ro at')) keyKy hm Tryz.runUnderlying87 Tryz.zeroValue22 rfl rfl (pf_cons (pf_cons (pf_cons (pf_cons pf_lastB)))) rfl fun es1 ce1 ie1 se1 ve1 Hk1 Hx1 ho1 hw1 => ?_
  refine ops_nil (fin_inv rfl (any_next (fun _ a b => ⟨Vw.sat.sub (a.perm (pf_takeB (pf_cons (pf_app (pf_app (pf_cons pf_here)))) (pf_takeB (pf_cons (pf_app (pf_app (pf_cons pf_here)))) (pf_takeB (pf_cons (pf_app (pf_app (pf_cons pf_here)))) (pf_cons (pf_app (pf_app (pf_cons pf_here)))))))), b⟩) ?_))
  refine any_sq 2 [8, 10] (by kernel_rfl) (fun _ a b => ⟨Vw.sat.sub (a.perm (pf_takeB (pf_cons (pf_app (pf_app (pf_cons pf_here)))) (pf_takeB (pf_cons (pf_app (pf_app (pf_cons pf_here)))) (pf_takeB (pf_cons (pf_app (pf_app (pf_cons pf_here)))) (pf_cons (pf_app (pf_app (pf_cons pf_here)))))))), b⟩) ?_
  refine sq_val rfl (yld_extract rfl rfl) rfl ?_
  refine sq_val rfl (yld_extract rfl rfl) rfl ?_
  refine sq_nil ?_
  refine any_one 9 rfl (by kernel_rfl) ?_
  refine ops_append (news := List.flatMap Pc.cells [x]) elt_pc hw1 rfl rfl (pf_cons pf_hereO) rfl (own_newsP (pf_cons (pf_app (pf_app pf_here)))) (fun u hu => one_rows Pc.cells_one hu) (by simp only [maxLen]; omega) (by omega) rfl fun sv1 Hr1 hr1 => ?_
  have hq1 : SRow 47 10 sv1 (List.length ((lat pm (Ky.mk (Pc.kind x) ro at')) ++ [x])) (List.flatMap Pc.cells ((lat pm (Ky.mk (Pc.kind x) ro at')) ++ [x])) Hr1 := by rw [List.length_append, List.flatMap_append]; exact hr1
  refine ops_nil (fin_inv rfl (any_next (fun _ a b => ⟨Vw.sat.sub (a.perm (pf_takeB (pf_app (pf_cons (pf_app (pf_cons pf_here)))) (pf_takeB (pf_app (pf_cons (pf_app (pf_cons pf_here)))) (pf_takeB (pf_app (pf_cons (pf_app (pf_cons pf_here)))) (pf_app (pf_cons (pf_app (pf_cons pf_here)))))))), b⟩) ?_))
  refine any_one 11 rfl (by kernel_rfl) ?_
  refine ops_entryStore (k := (Ky.mk (Pc.kind x) ro at')) (dd := x) ho1 (by rw [lat_same]; exact hq1) rfl rfl rfl (pf_assoc (pf_takeB (pf_app pf_here) (pf_takeO pf_hereO pf_hereO))) fun H2 hM2 => ?_
  refine ops_nil (fin_inv rfl (any_next (fun _ a b => ⟨Vw.sat.sub (a.perm (pf_takeB (pf_app (pf_cons pf_here)) (pf_takeB (pf_app (pf_cons pf_here)) (pf_takeB (pf_app (pf_cons pf_here)) (pf_app (pf_cons pf_here)))))), b⟩) ?_))
  refine any_done (by kernel_rfl) ?_
  refine fin_end rfl ?_
  exact end0 Tryz.results142 ⟨H2, hM2⟩ rfl (pf_takeB (pf_app (pf_cons (pf_cons pf_here))) (pf_takeB (pf_app (pf_cons (pf_cons pf_here))) (pf_takeB (pf_app (pf_cons (pf_cons pf_here))) pf_hereO))) (fun _ _ _ => trivial)
theorem arrange_c (x : Pc) (pm : List (Ky × Pc)) (lps : List Str) (g pb kb ab ub ob ib rb sb fb : Nat) (ev : Value) (lv : Value) (Hm Hl : Hp) (hm : MLog Ky.val Pc.cells 47 10 pm pb Hm) (hl : SRow 9 1 lv (List.length lps) (List.flatMap strC lps) Hl) (hpl : pm.length ≤ 900000000) (hll : lps.length ≤ 900000000) : Tri Tryz.prog 96 #[.pointer (some ⟨g, 0, none⟩), Pc.val x] ((g, .cells #[.map (some pb), lv, .map (some kb), ev, .map (some ab), .map (some ub), .map (some ob), .map (some ib), .map (some rb), .map (some sb), .map (some fb)] 94 (0, 0)) :: (Hm ++ Hl)) [] (fun _ : {y : Value × Hp × Hp // MLog Ky.val Pc.cells 47 10 (pm ++ putL x) pb y.2.1 ∧ SRow 9 1 y.1 (List.length (lps ++ loopsOf [x])) (List.flatMap strC (lps ++ loopsOf [x])) y.2.2} => .tuple #[]) (fun y => (g, .cells #[.map (some pb), y.1.1, .map (some kb), ev, .map (some ab), .map (some ub), .map (some ob), .map (some ib), .map (some rb), .map (some sb), .map (some fb)] 94 (0, 0)) :: (y.1.2.1 ++ y.1.2.2)) (fun _ => []) := by
 refine tri_of_body Tryz.func96 rfl rfl Tryz.ntmps96 rfl fun v0 => ?_
 refine run_seq (run_region (ops_box rfl rfl fun b1 => ?_))
 refine ops_box rfl rfl fun b2 => ?_
 refine ops_nil (fin_next rfl (run_seq (run_region (ops_val (yld_func rfl rfl) rfl ?_))))
 refine ops_val (yld_assign rfl) rfl (ops_nil (fin_next rfl (run_seq (run_region (ops_val (yld_field Tryz.runUnderlying47 rfl rfl rfl Tryz.sizeOf3) rfl ?_)))))
 refine ops_val (yld_load 0 Tryz.isAgg3 rfl rfl rfl) rfl ?_
 refine ops_nil (fin_next rfl (run_block (run_seq (run_seq (run_region (ops_valB (yld_eql rfl rfl) rfl fun r1 hr1 => ?_))))))
 refine ops_val (yld_assign rfl) rfl (ops_nil (fin_next rfl ?_))
 cases r1
 ·
  replace hr1 := ne_of_beq_false hr1
  refine run_cond_f rfl (run_seq (run_region (ops_valB (yld_eql rfl rfl) rfl fun r2 hr2 => ?_)))
  refine ops_val (yld_assign rfl) rfl (ops_nil (fin_next rfl ?_))
  cases r2
  ·
   replace hr2 := ne_of_beq_false hr2
   refine run_cond_f rfl (run_region (ops_valB (yld_eql rfl rfl) rfl fun r3 hr3 => ?_))
   refine ops_val (yld_assign rfl) rfl (ops_nil (fin_next rfl ?_))
   cases r3
   ·
    replace hr3 := ne_of_beq_false hr3
    refine run_cond_f rfl (run_seq (run_region (ops_valB (yld_eql rfl rfl) rfl fun r4 hr4 => ?_)))
    refine ops_val (yld_assign rfl) rfl (ops_nil (fin_next rfl ?_))
    cases r4
    ·
     replace hr4 := ne_of_beq_false hr4
     refine run_cond_f rfl (run_seq (run_region (ops_valB (yld_eql rfl rfl) rfl fun r5 hr5 => ?_)))
     refine ops_val (yld_assign rfl) rfl (ops_nil (fin_next rfl ?_))
     cases r5
     ·
      replace hr5 := ne_of_beq_false hr5
      refine run_cond_f rfl (run_seq (run_seq (run_region (ops_valB (yld_eql rfl rfl) rfl fun r6 hr6 => ?_))))
      refine ops_val (yld_assign rfl) rfl (ops_nil (fin_next rfl ?_))
      cases r6
      ·
       replace hr6 := ne_of_beq_false hr6
       refine run_cond_f rfl (run_region (ops_valB (yld_eql rfl rfl) rfl fun r7 hr7 => ?_))
       refine ops_val (yld_assign rfl) rfl (ops_nil (fin_next rfl ?_))
       cases r7
       ·
        replace hr7 := ne_of_beq_false hr7
        refine run_cond_f rfl (run_seq (run_region (ops_valB (yld_eql rfl rfl) rfl fun r8 hr8 => ?_)))
        refine ops_val (yld_assign rfl) rfl (ops_nil (fin_next rfl ?_))
        cases r8
        ·
         replace hr8 := ne_of_beq_false hr8
         refine run_cond_f rfl (run_seq (run_region (ops_valB (yld_eql rfl rfl) rfl fun r9 hr9 => ?_)))
         refine ops_val (yld_assign rfl) rfl (ops_nil (fin_next rfl ?_))
         cases r9
         ·
          replace hr9 := ne_of_beq_false hr9
          refine run_cond_f rfl (run_skip (fin_end rfl ?_))
          have e1 : pm = pm ++ putL x := by simp [putL, *]
          have e2 : lps = lps ++ loopsOf [x] := by simp [loopsOf, *]
          exact end0 Tryz.results96 ⟨(lv, Hm, Hl), e1 ▸ hm, e2 ▸ hl⟩ rfl (pf_takeB (pf_cons (pf_cons pf_here)) (pf_takeO (pf_cons (pf_cons pf_hereO)) (pf_cons pf_lastB))) (fun _ _ _ => trivial)
         ·
          replace hr9 := eq_of_beq hr9
          refine run_cond_t rfl ?_
          refine run_drawH ((b2, .cells #[.int .i64 (Pc.kind x), str (Pc.a x), str (Pc.b x), str (Pc.c x), str (Pc.r x), str (Pc.s x), str (Pc.t x), .int .i64 (Pc.lo x), .int .i64 (Pc.hi x), .int .i64 (Pc.frm x)] 47 (0, 0)) :: ((b1, .cells #[.pointer (some ⟨g, 0, none⟩)] 85 (0, 0)) :: [])) (by kernel_rfl) ?_
          refine any_sq 6 [0, 1, 2, 3, 5, 6] (by kernel_rfl) (fun _ a b => ⟨Vw.sat.sub (a.perm (pf_takeB pf_here pf_here)), b⟩) ?_
          refine sq_val rfl (yld_load 1 Tryz.isAgg85 rfl rfl rfl) rfl ?_
          refine sq_val rfl (yld_load 1 Tryz.isAgg85 rfl rfl rfl) rfl ?_
          refine sq_val rfl (yld_nilck rfl) rfl ?_
          refine sq_val rfl (yld_field Tryz.runUnderlying94 rfl rfl rfl Tryz.sizeOf25) rfl ?_
          refine sq_val rfl (yld_field Tryz.runUnderlying47 rfl rfl rfl Tryz.sizeOf9) rfl ?_
          refine sq_val rfl (yld_load 0 Tryz.isAgg9 rfl rfl rfl) rfl ?_
          refine sq_nil ?_
          refine any_two 4 7 rfl rfl (by kernel_rfl) ?_ ?_
          ·
           refine ops_val (yld_load 2 Tryz.isAgg25 rfl rfl rfl) rfl ?_
           refine ops_nil (fin_inv rfl (any_next (fun _ a b => ⟨Vw.sat.sub (a.perm (pf_takeB pf_here pf_here)), b⟩) ?_))
           refine any_one 7 rfl (by kernel_rfl) ?_
           refine ops_slit Tryz.runUnderlying25 Tryz.sizeOf9 Tryz.zeroValue9 rfl rfl rfl rfl rfl rfl fun b3 => ?_
           refine ops_nil (fin_inv rfl (any_next (fun _ a b => ⟨Vw.sat.sub (a.perm (pf_takeB (pf_cons pf_here) (pf_cons pf_here))), b⟩) ?_))
           refine any_one 8 rfl (by kernel_rfl) ?_
           refine ops_append (news := List.flatMap strC [(Pc.r x)]) elt_str hl rfl rfl (pf_cons (pf_cons (pf_cons (pf_cons pf_last)))) rfl (own_news 0 rfl) (fun u hu => one_rows strC_one hu) (by simp only [maxLen]; first | omega | (simp; omega)) (by first | omega | (simp; omega)) rfl fun sv1 Hr1 hr1 => ?_
           have hq1 : SRow 9 1 sv1 (List.length (lps ++ [(Pc.r x)])) (List.flatMap strC (lps ++ [(Pc.r x)])) Hr1 := by rw [List.length_append, List.flatMap_append]; exact hr1
           refine ops_nil (fin_inv rfl (any_next (fun _ a b => ⟨Vw.sat.sub (a.perm (pf_takeB (pf_app (pf_cons pf_here)) (pf_app (pf_cons pf_here)))), b⟩) ?_))
           refine any_sq 1 [9, 10] (by kernel_rfl) (fun _ a b => ⟨Vw.sat.sub (a.perm (pf_takeB (pf_app (pf_cons pf_here)) (pf_app (pf_cons pf_here)))), b⟩) ?_
           refine sq_val rfl (yld_nilck rfl) rfl ?_
           refine sq_val rfl (yld_field Tryz.runUnderlying94 rfl rfl rfl Tryz.sizeOf25) rfl ?_
           refine sq_nil ?_
           refine any_one 11 rfl (by kernel_rfl) ?_
           refine ok_perm (pf_fB (pf_app pf_here) (pf_fB (pf_app pf_here) (pf_fB (pf_app pf_here) (pf_f1 (pf_app pf_here))))) ?_
           refine ops_storeRow 3 hq1 Tryz.sizeOf25 rfl rfl rfl rfl ?_
           refine ops_nil (fin_inv rfl (any_next (fun _ a b => ⟨Vw.sat.sub (a.perm (pf_takeB (pf_cons pf_here) (pf_cons pf_here))), b⟩) ?_))
           refine any_done (by kernel_rfl) ?_
           refine fin_end rfl ?_
           have e1 : pm = pm ++ putL x := by simp [putL, *]
           have e2 : (lps ++ [(Pc.r x)]) = lps ++ loopsOf [x] := by simp [loopsOf, *]
           exact end0 Tryz.results96 ⟨(sv1, Hm, Hr1), e1 ▸ hm, e2 ▸ hq1⟩ rfl (pf_takeB (pf_cons (pf_cons (pf_cons pf_here))) (pf_takeO (pf_cons (pf_cons (pf_cons pf_last))) (pf_cons (pf_cons pf_lastB)))) (fun _ _ _ => trivial)
          ·
           refine ops_slit Tryz.runUnderlying25 Tryz.sizeOf9 Tryz.zeroValue9 rfl rfl rfl rfl rfl rfl fun b4 => ?_
           refine ops_nil (fin_inv rfl (any_next (fun _ a b => ⟨Vw.sat.sub (a.perm (pf_takeB (pf_cons pf_here) (pf_cons pf_here))), b⟩) ?_))
           refine any_one 4 rfl (by kernel_rfl) ?_
           refine ops_val (yld_load 3 Tryz.isAgg25 rfl rfl rfl) rfl ?_
           refine ops_nil (fin_inv rfl (any_next (fun _ a b => ⟨Vw.sat.sub (a.perm (pf_takeB (pf_cons pf_here) (pf_cons pf_here))), b⟩) ?_))
           refine any_one 8 rfl (by kernel_rfl) ?_
           refine ops_append (news := List.flatMap strC [(Pc.r x)]) elt_str hl rfl rfl (pf_cons (pf_cons (pf_cons (pf_cons pf_last)))) rfl (own_news 0 rfl) (fun u hu => one_rows strC_one hu) (by simp only [maxLen]; first | omega | (simp; omega)) (by first | omega | (simp; omega)) rfl fun sv2 Hr2 hr2 => ?_
           have hq2 : SRow 9 1 sv2 (List.length (lps ++ [(Pc.r x)])) (List.flatMap strC (lps ++ [(Pc.r x)])) Hr2 := by rw [List.length_append, List.flatMap_append]; exact hr2
           refine ops_nil (fin_inv rfl (any_next (fun _ a b => ⟨Vw.sat.sub (a.perm (pf_takeB (pf_app (pf_cons pf_here)) (pf_app (pf_cons pf_here)))), b⟩) ?_))
           refine any_sq 1 [9, 10] (by kernel_rfl) (fun _ a b => ⟨Vw.sat.sub (a.perm (pf_takeB (pf_app (pf_cons pf_here)) (pf_app (pf_cons pf_here)))), b⟩) ?_
           refine sq_val rfl (yld_nilck rfl) rfl ?_
           refine sq_val rfl (yld_field Tryz.runUnderlying94 rfl rfl rfl Tryz.sizeOf25) rfl ?_
           refine sq_nil ?_
           refine any_one 11 rfl (by kernel_rfl) ?_
           refine ok_perm (pf_fB (pf_app pf_here) (pf_fB (pf_app pf_here) (pf_fB (pf_app pf_here) (pf_f1 (pf_app pf_here))))) ?_
           refine ops_storeRow 3 hq2 Tryz.sizeOf25 rfl rfl rfl rfl ?_
           refine ops_nil (fin_inv rfl (any_next (fun _ a b => ⟨Vw.sat.sub (a.perm (pf_takeB (pf_cons pf_here) (pf_cons pf_here))), b⟩) ?_))
           refine any_done (by kernel_rfl) ?_
           refine fin_end rfl ?_
           have e1 : pm = pm ++ putL x := by simp [putL, *]
           have e2 : (lps ++ [(Pc.r x)]) = lps ++ loopsOf [x] := by simp [loopsOf, *]
           exact end0 Tryz.results96 ⟨(sv2, Hm, Hr2), e1 ▸ hm, e2 ▸ hq2⟩ rfl (pf_takeB (pf_cons (pf_cons (pf_cons pf_here))) (pf_takeO (pf_cons (pf_cons (pf_cons pf_last))) (pf_cons (pf_cons pf_lastB)))) (fun _ _ _ => trivial)
        ·
         replace hr8 := eq_of_beq hr8
         refine run_cond_t rfl (run_seq (run_region (ops_val (yld_move rfl) rfl (ops_val (yld_field Tryz.runUnderlying47 rfl rfl rfl Tryz.sizeOf9) rfl ?_))))
         refine ops_val (yld_load 0 Tryz.isAgg9 rfl rfl rfl) rfl ?_
         refine ops_calld (put_c x (Pc.r x) [] pm b2 b1 g pb kb ab ub ob ib rb sb fb ev lv Hm hm (by first | omega | (simp; omega))) rfl rfl (pf_takeB pf_here (pf_takeB pf_here (pf_takeB pf_here pf_hereO))) (fun _ _ _ => by exact trivial) rfl fun ⟨HP1, hP1⟩ => ?_
         dsimp only
         simp only [List.cons_append]
         refine ops_nil (fin_next rfl (run_region (ops_val (yld_move rfl) rfl (ops_val (yld_field Tryz.runUnderlying47 rfl rfl rfl Tryz.sizeOf9) rfl ?_))))
         refine ops_val (yld_load 0 Tryz.isAgg9 rfl rfl rfl) rfl ?_
         refine ops_calld (put_c x [] (Pc.s x) (pm ++ [((Ky.mk (Pc.kind x) (Pc.r x) []), x)]) b2 b1 g pb kb ab ub ob ib rb sb fb ev lv HP1 hP1 (by first | omega | (simp; omega))) rfl rfl (pf_takeB pf_here (pf_takeB pf_here (pf_takeB pf_here pf_hereO))) (fun _ _ _ => by exact trivial) rfl fun ⟨HP2, hP2⟩ => ?_
         dsimp only
         simp only [List.cons_append]
         refine ops_nil (fin_end rfl ?_)
         have e1 : ((pm ++ [((Ky.mk (Pc.kind x) (Pc.r x) []), x)]) ++ [((Ky.mk (Pc.kind x) [] (Pc.s x)), x)]) = pm ++ putL x := by simp [putL, *]
         have e2 : lps = lps ++ loopsOf [x] := by simp [loopsOf, *]
         exact end0 Tryz.results96 ⟨(lv, HP2, Hl), e1 ▸ hP2, e2 ▸ hl⟩ rfl (pf_takeB (pf_cons (pf_cons pf_here)) (pf_takeO (pf_cons (pf_cons pf_hereO)) (pf_cons pf_lastB))) (fun _ _ _ => trivial)
       ·
        replace hr7 := eq_of_beq hr7
        refine run_cond_t rfl (run_region (ops_val (yld_move rfl) rfl (ops_val (yld_field Tryz.runUnderlying47 rfl rfl rfl Tryz.sizeOf9) rfl ?_)))
        refine ops_val (yld_load 0 Tryz.isAgg9 rfl rfl rfl) rfl ?_
        refine ops_calld (put_c x (Pc.r x) [] pm b2 b1 g pb kb ab ub ob ib rb sb fb ev lv Hm hm (by first | omega | (simp; omega))) rfl rfl (pf_takeB pf_here (pf_takeB pf_here (pf_takeB pf_here pf_hereO))) (fun _ _ _ => by exact trivial) rfl fun ⟨HP3, hP3⟩ => ?_
        dsimp only
        simp only [List.cons_append]
        refine ops_nil (fin_end rfl ?_)
        have e1 : (pm ++ [((Ky.mk (Pc.kind x) (Pc.r x) []), x)]) = pm ++ putL x := by simp [putL, *]
        have e2 : lps = lps ++ loopsOf [x] := by simp [loopsOf, *]
        exact end0 Tryz.results96 ⟨(lv, HP3, Hl), e1 ▸ hP3, e2 ▸ hl⟩ rfl (pf_takeB (pf_cons (pf_cons pf_here)) (pf_takeO (pf_cons (pf_cons pf_hereO)) (pf_cons pf_lastB))) (fun _ _ _ => trivial)
      ·
       replace hr6 := eq_of_beq hr6
       refine run_cond_t rfl (run_skip (fin_next rfl (run_cond_t rfl (run_region (ops_val (yld_move rfl) rfl (ops_val (yld_field Tryz.runUnderlying47 rfl rfl rfl Tryz.sizeOf9) rfl ?_))))))
       refine ops_val (yld_load 0 Tryz.isAgg9 rfl rfl rfl) rfl ?_
       refine ops_calld (put_c x (Pc.r x) [] pm b2 b1 g pb kb ab ub ob ib rb sb fb ev lv Hm hm (by first | omega | (simp; omega))) rfl rfl (pf_takeB pf_here (pf_takeB pf_here (pf_takeB pf_here pf_hereO))) (fun _ _ _ => by exact trivial) rfl fun ⟨HP4, hP4⟩ => ?_
       dsimp only
       simp only [List.cons_append]
       refine ops_nil (fin_end rfl ?_)
       have e1 : (pm ++ [((Ky.mk (Pc.kind x) (Pc.r x) []), x)]) = pm ++ putL x := by simp [putL, *]
       have e2 : lps = lps ++ loopsOf [x] := by simp [loopsOf, *]
       exact end0 Tryz.results96 ⟨(lv, HP4, Hl), e1 ▸ hP4, e2 ▸ hl⟩ rfl (pf_takeB (pf_cons (pf_cons pf_here)) (pf_takeO (pf_cons (pf_cons pf_hereO)) (pf_cons pf_lastB))) (fun _ _ _ => trivial)
     ·
      replace hr5 := eq_of_beq hr5
      refine run_cond_t rfl (run_seq (run_region (ops_val (yld_move rfl) rfl (ops_val (yld_field Tryz.runUnderlying47 rfl rfl rfl Tryz.sizeOf9) rfl ?_))))
      refine ops_val (yld_load 0 Tryz.isAgg9 rfl rfl rfl) rfl ?_
      refine ops_calld (put_c x [] (Pc.a x) pm b2 b1 g pb kb ab ub ob ib rb sb fb ev lv Hm hm (by first | omega | (simp; omega))) rfl rfl (pf_takeB pf_here (pf_takeB pf_here (pf_takeB pf_here pf_hereO))) (fun _ _ _ => by exact trivial) rfl fun ⟨HP5, hP5⟩ => ?_
      dsimp only
      simp only [List.cons_append]
      refine ops_nil (fin_next rfl (run_region (ops_val (yld_move rfl) rfl (ops_val (yld_field Tryz.runUnderlying47 rfl rfl rfl Tryz.sizeOf9) rfl ?_))))
      refine ops_val (yld_load 0 Tryz.isAgg9 rfl rfl rfl) rfl ?_
      refine ops_val (yld_field Tryz.runUnderlying47 rfl rfl rfl Tryz.sizeOf9) rfl ?_
      refine ops_val (yld_load 0 Tryz.isAgg9 rfl rfl rfl) rfl ?_
      refine ops_calld (put_c x (Pc.r x) (Pc.a x) (pm ++ [((Ky.mk (Pc.kind x) [] (Pc.a x)), x)]) b2 b1 g pb kb ab ub ob ib rb sb fb ev lv HP5 hP5 (by first | omega | (simp; omega))) rfl rfl (pf_takeB pf_here (pf_takeB pf_here (pf_takeB pf_here pf_hereO))) (fun _ _ _ => by exact trivial) rfl fun ⟨HP6, hP6⟩ => ?_
      dsimp only
      simp only [List.cons_append]
      refine ops_nil (fin_end rfl ?_)
      have e1 : ((pm ++ [((Ky.mk (Pc.kind x) [] (Pc.a x)), x)]) ++ [((Ky.mk (Pc.kind x) (Pc.r x) (Pc.a x)), x)]) = pm ++ putL x := by simp [putL, *]
      have e2 : lps = lps ++ loopsOf [x] := by simp [loopsOf, *]
      exact end0 Tryz.results96 ⟨(lv, HP6, Hl), e1 ▸ hP6, e2 ▸ hl⟩ rfl (pf_takeB (pf_cons (pf_cons pf_here)) (pf_takeO (pf_cons (pf_cons pf_hereO)) (pf_cons pf_lastB))) (fun _ _ _ => trivial)
    ·
     replace hr4 := eq_of_beq hr4
     refine run_cond_t rfl (run_seq (run_region (ops_val (yld_move rfl) rfl (ops_val (yld_field Tryz.runUnderlying47 rfl rfl rfl Tryz.sizeOf9) rfl ?_))))
     refine ops_val (yld_load 0 Tryz.isAgg9 rfl rfl rfl) rfl ?_
     refine ops_calld (put_c x [] (Pc.a x) pm b2 b1 g pb kb ab ub ob ib rb sb fb ev lv Hm hm (by first | omega | (simp; omega))) rfl rfl (pf_takeB pf_here (pf_takeB pf_here (pf_takeB pf_here pf_hereO))) (fun _ _ _ => by exact trivial) rfl fun ⟨HP7, hP7⟩ => ?_
     dsimp only
     simp only [List.cons_append]
     refine ops_nil (fin_next rfl (run_seq (run_region (ops_val (yld_field Tryz.runUnderlying47 rfl rfl rfl Tryz.sizeOf9) rfl ?_))))
     refine ops_val (yld_load 0 Tryz.isAgg9 rfl rfl rfl) rfl ?_
     refine ops_val (yld_field Tryz.runUnderlying47 rfl rfl rfl Tryz.sizeOf9) rfl ?_
     refine ops_val (yld_load 0 Tryz.isAgg9 rfl rfl rfl) rfl ?_
     refine ops_valB (yld_sneq rfl rfl) rfl fun r10 hr10 => ?_
     refine ops_nil (fin_next rfl ?_)
     cases r10
     ·
      replace hr10 := eq_of_bne hr10
      refine run_cond_f rfl (run_skip (fin_end rfl ?_))
      have e1 : (pm ++ [((Ky.mk (Pc.kind x) [] (Pc.a x)), x)]) = pm ++ putL x := by simp [putL, *]
      have e2 : lps = lps ++ loopsOf [x] := by simp [loopsOf, *]
      exact end0 Tryz.results96 ⟨(lv, HP7, Hl), e1 ▸ hP7, e2 ▸ hl⟩ rfl (pf_takeB (pf_cons (pf_cons pf_here)) (pf_takeO (pf_cons (pf_cons pf_hereO)) (pf_cons pf_lastB))) (fun _ _ _ => trivial)
     ·
      replace hr10 := ne_of_bne hr10
      refine run_cond_t rfl (run_region (ops_val (yld_move rfl) rfl (ops_val (yld_field Tryz.runUnderlying47 rfl rfl rfl Tryz.sizeOf9) rfl ?_)))
      refine ops_val (yld_load 0 Tryz.isAgg9 rfl rfl rfl) rfl ?_
      refine ops_calld (put_c x [] (Pc.b x) (pm ++ [((Ky.mk (Pc.kind x) [] (Pc.a x)), x)]) b2 b1 g pb kb ab ub ob ib rb sb fb ev lv HP7 hP7 (by first | omega | (simp; omega))) rfl rfl (pf_takeB pf_here (pf_takeB pf_here (pf_takeB pf_here pf_hereO))) (fun _ _ _ => by exact trivial) rfl fun ⟨HP8, hP8⟩ => ?_
      dsimp only
      simp only [List.cons_append]
      refine ops_nil (fin_end rfl ?_)
      have e1 : ((pm ++ [((Ky.mk (Pc.kind x) [] (Pc.a x)), x)]) ++ [((Ky.mk (Pc.kind x) [] (Pc.b x)), x)]) = pm ++ putL x := by simp [putL, *]
      have e2 : lps = lps ++ loopsOf [x] := by simp [loopsOf, *]
      exact end0 Tryz.results96 ⟨(lv, HP8, Hl), e1 ▸ hP8, e2 ▸ hl⟩ rfl (pf_takeB (pf_cons (pf_cons pf_here)) (pf_takeO (pf_cons (pf_cons pf_hereO)) (pf_cons pf_lastB))) (fun _ _ _ => trivial)
   ·
    replace hr3 := eq_of_beq hr3
    refine run_cond_t rfl (run_region (ops_val (yld_move rfl) rfl (ops_val (yld_field Tryz.runUnderlying47 rfl rfl rfl Tryz.sizeOf9) rfl ?_)))
    refine ops_val (yld_load 0 Tryz.isAgg9 rfl rfl rfl) rfl ?_
    refine ops_calld (put_c x [] (Pc.a x) pm b2 b1 g pb kb ab ub ob ib rb sb fb ev lv Hm hm (by first | omega | (simp; omega))) rfl rfl (pf_takeB pf_here (pf_takeB pf_here (pf_takeB pf_here pf_hereO))) (fun _ _ _ => by exact trivial) rfl fun ⟨HP9, hP9⟩ => ?_
    dsimp only
    simp only [List.cons_append]
    refine ops_nil (fin_end rfl ?_)
    have e1 : (pm ++ [((Ky.mk (Pc.kind x) [] (Pc.a x)), x)]) = pm ++ putL x := by simp [putL, *]
    have e2 : lps = lps ++ loopsOf [x] := by simp [loopsOf, *]
    exact end0 Tryz.results96 ⟨(lv, HP9, Hl), e1 ▸ hP9, e2 ▸ hl⟩ rfl (pf_takeB (pf_cons (pf_cons pf_here)) (pf_takeO (pf_cons (pf_cons pf_hereO)) (pf_cons pf_lastB))) (fun _ _ _ => trivial)
  ·
   replace hr2 := eq_of_beq hr2
   refine run_cond_t rfl (run_skip (fin_next rfl (run_cond_t rfl (run_region (ops_val (yld_move rfl) rfl (ops_val (yld_field Tryz.runUnderlying47 rfl rfl rfl Tryz.sizeOf9) rfl ?_))))))
   refine ops_val (yld_load 0 Tryz.isAgg9 rfl rfl rfl) rfl ?_
   refine ops_calld (put_c x [] (Pc.a x) pm b2 b1 g pb kb ab ub ob ib rb sb fb ev lv Hm hm (by first | omega | (simp; omega))) rfl rfl (pf_takeB pf_here (pf_takeB pf_here (pf_takeB pf_here pf_hereO))) (fun _ _ _ => by exact trivial) rfl fun ⟨HP10, hP10⟩ => ?_
   dsimp only
   simp only [List.cons_append]
   refine ops_nil (fin_end rfl ?_)
   have e1 : (pm ++ [((Ky.mk (Pc.kind x) [] (Pc.a x)), x)]) = pm ++ putL x := by simp [putL, *]
   have e2 : lps = lps ++ loopsOf [x] := by simp [loopsOf, *]
   exact end0 Tryz.results96 ⟨(lv, HP10, Hl), e1 ▸ hP10, e2 ▸ hl⟩ rfl (pf_takeB (pf_cons (pf_cons pf_here)) (pf_takeO (pf_cons (pf_cons pf_hereO)) (pf_cons pf_lastB))) (fun _ _ _ => trivial)
 ·
  replace hr1 := eq_of_beq hr1
  refine run_cond_t rfl (run_skip (fin_next rfl (run_cond_t rfl (run_region (ops_val (yld_move rfl) rfl (ops_val (yld_field Tryz.runUnderlying47 rfl rfl rfl Tryz.sizeOf9) rfl ?_))))))
  refine ops_val (yld_load 0 Tryz.isAgg9 rfl rfl rfl) rfl ?_
  refine ops_calld (put_c x [] (Pc.a x) pm b2 b1 g pb kb ab ub ob ib rb sb fb ev lv Hm hm (by first | omega | (simp; omega))) rfl rfl (pf_takeB pf_here (pf_takeB pf_here (pf_takeB pf_here pf_hereO))) (fun _ _ _ => by exact trivial) rfl fun ⟨HP11, hP11⟩ => ?_
  dsimp only
  simp only [List.cons_append]
  refine ops_nil (fin_end rfl ?_)
  have e1 : (pm ++ [((Ky.mk (Pc.kind x) [] (Pc.a x)), x)]) = pm ++ putL x := by simp [putL, *]
  have e2 : lps = lps ++ loopsOf [x] := by simp [loopsOf, *]
  exact end0 Tryz.results96 ⟨(lv, HP11, Hl), e1 ▸ hP11, e2 ▸ hl⟩ rfl (pf_takeB (pf_cons (pf_cons pf_here)) (pf_takeO (pf_cons (pf_cons pf_hereO)) (pf_cons pf_lastB))) (fun _ _ _ => trivial)
structure NewE where
  g : Nat
  pb : Nat
  kb : Nat
  ab : Nat
  ub : Nat
  ob : Nat
  ib : Nat
  rb : Nat
  sb : Nat
  fb : Nat
  lv : Value
  hm : Hp
  hl : Hp
def NewE.ok (ps : List Pc) (y : NewE) : Prop := MLog Ky.val Pc.cells 47 10 (pmOf ps) y.pb y.hm ∧ SRow 9 1 y.lv (List.length (loopsOf ps)) (List.flatMap strC (loopsOf ps)) y.hl
def NewE.own (y : NewE) : Hp := (y.g, .cells #[.map (some y.pb), y.lv, .map (some y.kb), .nilFunc, .map (some y.ab), .map (some y.ub), .map (some y.ob), .map (some y.ib), .map (some y.rb), .map (some y.sb), .map (some y.fb)] 94 (0, 0)) :: (y.kb, .map #[] 0) :: (y.ab, .map #[] 0) :: (y.ub, .map #[] 0) :: (y.ob, .map #[] 0) :: (y.ib, .map #[] 0) :: (y.rb, .map #[] 0) :: (y.sb, .map #[] 0) :: (y.fb, .map #[] 0) :: (y.hm ++ y.hl)
theorem uniq_step {p : List Pc} {i : Nat} {x : Pc} (h : p[i]? = some x) : uniq [] (List.take (i + 1) p) = if x.zf ∈ uniq [] (List.take i p) then uniq [] (List.take i p) else uniq [] (List.take i p) ++ [x.zf] := by
  have key : ∀ (l : List Pc) (r : List Pc), uniq l (r ++ [x]) = if x.zf ∈ uniq l r then uniq l r else uniq l r ++ [x.zf] := by
    intro l r
    induction r generalizing l with
    | nil => rfl
    | cons y r ih => exact ih _
  rw [List.take_add_one, h, Option.toList_some]
  exact key _ _
theorem pmOf_snoc (l : List Pc) (x : Pc) : pmOf (l ++ [x]) = pmOf l ++ putL x := by simp [pmOf]
theorem loopsOf_snoc (l : List Pc) (x : Pc) : loopsOf (l ++ [x]) = loopsOf l ++ loopsOf [x] := by simp [loopsOf]
theorem putL_len (x : Pc) : (putL x).length ≤ 2 := by unfold putL; repeat' split
                                                      all_goals simp
theorem pmOf_len : ∀ l : List Pc, (pmOf l).length ≤ 2 * l.length
  | [] => by simp [pmOf]
  | x :: l => by
    have := pmOf_len l
    have h2 := putL_len x
    simp only [pmOf, List.flatMap_cons, List.length_append, List.length_cons] at this ⊢
    omega
theorem loopsOf_len (l : List Pc) : (loopsOf l).length ≤ l.length := by
  simp only [loopsOf, List.length_map]; exact List.length_filter_le _ _
theorem newEngine_c (p : List Pc) (pad : Option Addr) (pcap : Nat) (hp : p.length ≤ 100000000) : Tri Tryz.prog 54 #[.slice pad (List.length p) pcap] [] [rowF pad (List.flatMap Pc.cells p)] (fun y : {y : NewE // y.ok (uniq [] p)} => .pointer (some ⟨y.1.g, 0, none⟩)) (fun y => y.1.own) (fun _ => []) := by
 refine tri_of_body Tryz.func54 rfl rfl Tryz.ntmps54 rfl fun v0 => ?_
 refine run_seq (run_region (ops_val (yld_assign rfl) rfl (ops_nil (fin_next rfl (run_seq (run_region (ops_mkmap rfl fun b1 => ?_)))))))
 refine ops_mkmap rfl fun b2 => ?_
 refine ops_mkmap rfl fun b3 => ?_
 refine ops_mkmap rfl fun b4 => ?_
 refine ops_mkmap rfl fun b5 => ?_
 refine ops_mkmap rfl fun b6 => ?_
 refine ops_mkmap rfl fun b7 => ?_
 refine ops_mkmap rfl fun b8 => ?_
 refine ops_mkmap rfl fun b9 => ?_
 refine ops_val (yld_struct strt94 rfl rfl) rfl ?_
 refine ops_box rfl rfl fun b10 => ?_
 refine ops_val (yld_assign rfl) rfl (ops_nil (fin_next rfl (run_seq (run_region (ops_mkmap rfl fun b11 => ?_)))))
 refine ops_val (yld_assign rfl) rfl (ops_nil (fin_next rfl (run_seq (run_seq (run_region (ops_val (yld_move rfl) rfl (ops_val (yld_lenS Tryz.runUnderlying22 rfl) rfl ?_)))))))
 refine ops_val (yld_move rfl) rfl (ops_nil (fin_next rfl (run_block (ok_fr [(3, .pointer (some ⟨b10, 0, none⟩)), (4, .map (some b11)), (19, .slice pad (List.length p) pcap), (20, .int .i64 (List.length p : Int)), (21, .int .i64 ((0 : Nat) : Int))] ⟨rfl, rfl, rfl, rfl, rfl, trivial⟩ ?_))))
 refine ok_weak (H' := ((b10, .cells #[.map (some b1), (.slice none 0 0), .map (some b2), .nilFunc, .map (some b3), .map (some b4), .map (some b5), .map (some b6), .map (some b7), .map (some b8), .map (some b9)] 94 (0, 0)) :: ((b11, .map #[] 0) :: ((b2, .map #[] 0) :: ((b3, .map #[] 0) :: ((b4, .map #[] 0) :: ((b5, .map #[] 0) :: ((b6, .map #[] 0) :: ((b7, .map #[] 0) :: ((b8, .map #[] 0) :: ((b9, .map #[] 0) :: ([(b1, .map #[] 0)] ++ [])))))))))))) (Γ' := [rowF pad (List.flatMap Pc.cells p)]) (pf_takeB (pf_cons pf_here) (pf_takeB pf_here (pf_takeB (pf_cons (pf_cons (pf_cons (pf_cons (pf_cons (pf_cons (pf_cons pf_here))))))) (pf_takeB (pf_cons (pf_cons (pf_cons (pf_cons (pf_cons (pf_cons pf_here)))))) (pf_takeB (pf_cons (pf_cons (pf_cons (pf_cons (pf_cons pf_here))))) (pf_takeB (pf_cons (pf_cons (pf_cons (pf_cons pf_here)))) (pf_takeB (pf_cons (pf_cons (pf_cons pf_here))) (pf_takeB (pf_cons (pf_cons pf_here)) (pf_takeB (pf_cons pf_here) (pf_takeB pf_here pf_here)))))))))) (fun v _ h => by exact ⟨h.1, trivial⟩) ?_
 refine run_loop (ι := {y : Nat × Array MapEntry × Nat × Hp × Value × Hp // y.1 ≤ List.length p ∧ SetE Pc.val y.2.1 (uniq [] (List.take y.1 p)) ∧ MLog Ky.val Pc.cells 47 10 (pmOf (uniq [] (List.take y.1 p))) b1 y.2.2.2.1 ∧ SRow 9 1 y.2.2.2.2.1 (List.length (loopsOf (uniq [] (List.take y.1 p)))) (List.flatMap strC (loopsOf (uniq [] (List.take y.1 p)))) y.2.2.2.2.2}) (fun y => [(3, .pointer (some ⟨b10, 0, none⟩)), (4, .map (some b11)), (19, .slice pad (List.length p) pcap), (20, .int .i64 (List.length p : Int)), (21, .int .i64 (y.1.1 : Int))]) (fun y => ((b10, .cells #[.map (some b1), y.1.2.2.2.2.1, .map (some b2), .nilFunc, .map (some b3), .map (some b4), .map (some b5), .map (some b6), .map (some b7), .map (some b8), .map (some b9)] 94 (0, 0)) :: ((b11, .map y.1.2.1 y.1.2.2.1) :: ((b2, .map #[] 0) :: ((b3, .map #[] 0) :: ((b4, .map #[] 0) :: ((b5, .map #[] 0) :: ((b6, .map #[] 0) :: ((b7, .map #[] 0) :: ((b8, .map #[] 0) :: ((b9, .map #[] 0) :: (y.1.2.2.2.1 ++ y.1.2.2.2.2.2)))))))))))) (fun y => [rowF pad (List.flatMap Pc.cells p)]) (fun y => List.length p - y.1.1) ⟨((0 : Nat), #[], 0, [(b1, .map #[] 0)], (.slice none 0 0), []), by simp, by exact SetE.nil, by exact MLog.nil _ _, (SRow.nil 9 1)⟩ ?_
 rintro ⟨⟨i, es, cs, Hm, sv_L, H_L⟩, hi, hE, hm, hr_L⟩
 dsimp only at hi hE hm hr_L ⊢
 refine ok_fr [(3, .pointer (some ⟨b10, 0, none⟩)), (4, .map (some b11)), (19, .slice pad (List.length p) pcap), (20, .int .i64 (List.length p : Int)), (21, .int .i64 (i : Int))] ⟨rfl, rfl, rfl, rfl, rfl, trivial⟩ ?_
 have hbu := uniq_len (List.take i p) []
 have hbt := List.length_take_le i p
 simp only [List.length_nil] at hbu
 have hbp : (pmOf (uniq [] (List.take i p))).length ≤ 900000000 := by have := pmOf_len (uniq [] (List.take i p)); omega
 have hbl : (loopsOf (uniq [] (List.take i p))).length ≤ 900000000 := by have := loopsOf_len (uniq [] (List.take i p)); omega
 refine run_seq (run_region (ops_valB (yld_lss rfl rfl) rfl fun r1 hr1 => ?_))
 refine ops_nil (fin_next rfl (run_seq ?_))
 cases r1
 ·
  replace hr1 := of_decide_eq_false hr1
  refine run_cond_f rfl (run_exit rfl (fin_next rfl (run_seq (run_region (ops_val (yld_move rfl) rfl (ops_val (yld_assign rfl) rfl (ops_nil ?_)))))))
  refine fin_next rfl (run_ret ?_)
  have e9 : List.take i p = p := List.take_of_length_le (by omega)
  rw [e9] at hm hr_L
  exact ret1 Tryz.results54 ⟨NewE.mk b10 b1 b2 b3 b4 b5 b6 b7 b8 b9 sv_L Hm H_L, hm, hr_L⟩ rfl (pf_takeB pf_here (pf_takeB (pf_cons pf_here) (pf_takeB (pf_cons pf_here) (pf_takeB (pf_cons pf_here) (pf_takeB (pf_cons pf_here) (pf_takeB (pf_cons pf_here) (pf_takeB (pf_cons pf_here) (pf_takeB (pf_cons pf_here) (pf_takeB (pf_cons pf_here) (pf_takeO (pf_cons pf_hereO) pf_lastB)))))))))) (fun _ _ _ => trivial)
 ·
  replace hr1 := of_decide_eq_true hr1
  have hlx1 : i < List.length p := by omega
  obtain ⟨x1, hx1⟩ : ∃ e0, p[i]? = some e0 := ⟨_, List.getElem?_eq_getElem hlx1⟩
  have hmx1 : x1 ∈ p := List.mem_of_getElem? hx1
  refine run_cond_t rfl (run_skip (fin_next rfl (run_seq (run_block (run_seq (run_region (ops_val (yld_indexR Tryz.runUnderlying22 Tryz.sizeOf47 rfl rfl (fun v _ h => row_adr (n := 10) Pc.cells_len (by decide) (by exact h.1) hx1) (by omega) (by first | omega | (simp; done))) rfl ?_)))))))
  refine ops_val (yld_loadRS (ad := pad) (us := Pc.cells x1) Tryz.isAgg47 Tryz.sizeOf47 rfl (fun v _ h => by exact h.1) (Pc.cells_len _) (row_cells Pc.cells_len hx1)) rfl ?_
  refine ops_alloc Tryz.zeroValue47 rfl fun b12 => ?_
  refine ops_store 0 Tryz.sizeOf47 rfl rfl rfl rfl rfl rfl ?_
  refine ops_nil (fin_next rfl (run_seq (run_region (ops_val (yld_field Tryz.runUnderlying47 rfl rfl rfl Tryz.sizeOf3) rfl ?_))))
  refine ops_store 0 Tryz.sizeOf3 rfl rfl rfl rfl rfl rfl ?_
  refine ops_nil (fin_next rfl (run_seq (run_region (ops_val (yld_move rfl) rfl (ops_val (yld_loadS 0 Tryz.isAgg47 Tryz.sizeOf47 rfl rfl rfl) rfl ?_)))))
  refine ops_valB (yld_lookSet (k := Pc.zf x1) (q := (uniq [] (List.take i p))) keyPcT Tryz.runUnderlying139 Tryz.zeroValue4 rfl rfl hE (fun v h _ => (h.own _ (List.mem_of_getElem? (i := 2) rfl)).1)) rfl fun r2 hr2 => ?_
  refine ops_val (yld_not rfl) rfl ?_
  refine ops_nil (fin_next rfl ?_)
  cases r2
  ·
   replace hr2 := of_decide_eq_false hr2
   refine run_cond_t rfl (run_seq (run_region (ops_val (yld_move rfl) rfl (ops_val (yld_loadS 0 Tryz.isAgg47 Tryz.sizeOf47 rfl rfl rfl) rfl ?_))))
   refine ops_join (k := Pc.zf x1) (q := (uniq [] (List.take i p))) 2 keyPcT (.inr rfl) Tryz.runUnderlying139 rfl rfl rfl rfl hE fun es1 c1 hE1 => ?_
   refine ops_nil (fin_next rfl (run_region (ops_val (yld_move rfl) rfl (ops_val (yld_loadS 0 Tryz.isAgg47 Tryz.sizeOf47 rfl rfl rfl) rfl ?_))))
   refine ops_call (arrange_c (Pc.zf x1) (pmOf (uniq [] (List.take i p))) (loopsOf (uniq [] (List.take i p))) b10 b1 b2 b3 b4 b5 b6 b7 b8 b9 .nilFunc sv_L Hm H_L hm hr_L  hbp hbl) rfl (pf_takeB (pf_cons pf_here) (pf_takeO (pf_cons (pf_cons (pf_cons (pf_cons (pf_cons (pf_cons (pf_cons (pf_cons (pf_cons (pf_cons pf_hereO)))))))))) (pf_cons (pf_cons (pf_cons (pf_cons (pf_cons (pf_cons (pf_cons (pf_cons (pf_cons pf_lastB))))))))))) (fun _ _ _ => by exact trivial) rfl fun ⟨⟨lv1, HA1, HA2⟩, hA1, hA2⟩ => ?_
   dsimp only
   simp only [List.cons_append, List.append_assoc]
   refine ops_nil (fin_next rfl (ok_perm (pf_fB pf_here (pf_fB (pf_app (pf_app pf_here)) (pf_fB (pf_app (pf_app pf_here)) (pf_fB (pf_app (pf_app pf_here)) (pf_fB (pf_app (pf_app pf_here)) (pf_fB (pf_app (pf_app pf_here)) (pf_fB (pf_app (pf_app pf_here)) (pf_fB (pf_app (pf_app pf_here)) (pf_fB (pf_app (pf_app pf_here)) (pf_fB (pf_app (pf_app pf_here)) (pf_f1 (pf_app pf_last)))))))))))) ?_))
   refine run_region (ops_val (yld_arith rfl rfl rfl (wrap64 (by omega) (by omega))) rfl ?_)
   refine ops_val (yld_move rfl) rfl (ops_nil (fin_inv rfl ?_))
   exact ok_again ⟨(i + 1, es1, c1, HA1, lv1, HA2), hlx1, by rw [uniq_step hx1]; exact hE1, by rw [uniq_step hx1, if_neg (by assumption), pmOf_snoc]; exact hA1, (by rw [uniq_step hx1, if_neg (by assumption), loopsOf_snoc]; exact hA2)⟩ (by dsimp only; omega) ⟨rfl, rfl, rfl, rfl, rfl, trivial⟩ (pf_takeB pf_here (pf_takeB (pf_cons pf_here) (pf_takeB (pf_cons pf_here) (pf_takeB (pf_cons pf_here) (pf_takeB (pf_cons pf_here) (pf_takeB (pf_cons pf_here) (pf_takeB (pf_cons pf_here) (pf_takeB (pf_cons pf_here) (pf_takeB (pf_cons pf_here) (pf_takeB (pf_cons pf_here) (pf_takeO (pf_cons pf_hereO) pf_lastB))))))))))) (fun v _ h => by exact ⟨h.1, trivial⟩)
  ·
   replace hr2 := of_decide_eq_true hr2
   refine run_cond_f rfl (run_skip (fin_next rfl (run_region (ops_val (yld_arith rfl rfl rfl (wrap64 (by omega) (by omega))) rfl ?_))))
   refine ops_val (yld_move rfl) rfl (ops_nil (fin_inv rfl ?_))
   exact ok_again ⟨(i + 1, es, cs, Hm, sv_L, H_L), hlx1, by rw [uniq_step hx1, if_pos (by assumption)]; exact hE, by rw [uniq_step hx1, if_pos (by assumption)]; exact hm, (by rw [uniq_step hx1, if_pos (by assumption)]; exact hr_L)⟩ (by dsimp only; omega) ⟨rfl, rfl, rfl, rfl, rfl, trivial⟩ (pf_takeB (pf_cons pf_here) (pf_takeB (pf_cons pf_here) (pf_takeB (pf_cons pf_here) (pf_takeB (pf_cons pf_here) (pf_takeB (pf_cons pf_here) (pf_takeB (pf_cons pf_here) (pf_takeB (pf_cons pf_here) (pf_takeB (pf_cons pf_here) (pf_takeB (pf_cons pf_here) (pf_takeB (pf_cons pf_here) (pf_takeO (pf_cons pf_hereO) pf_lastB))))))))))) (fun v _ h => by exact ⟨h.1, trivial⟩)
end Go.Proofs.YtpdbbglpbngeiaaGreatDoor
namespace Go.Proofs.YtpdbbglpbngeiaaGreatDoor
open Go Go.Sx Go.Proofs
set_option linter.unusedVariables false
attribute [local irreducible] Code.wp wpList wpAnyH
open Go.Vs
theorem yld_lenSet {P : Program} {N : Nat} {fr : Fr} {H : Hp} {Γ : List Fct} {ty : TypeId} {K : Type} [DecidableEq K] {kv : K → Value} {t kt et : TypeId} {x : Operand} {mb c : Nat} {es : Array MapEntry} {q : List K} (hE : SetE kv es q) (hu : ∀ w, (underlying t).run P w = .ok (.map kt et) w) (hx : Fr.ev fr x = some (.map (some mb))) (hm : ∀ v, v.sat H → holds Γ v → v.w.heap[mb]? = some (.map es c)) :
    Yld P N fr H Γ (.call ⟨.builtin .len, #[x], #[t]⟩) ty (.int .i64 (q.length : Int)) := by
  rw [← hE.size]; exact yld_lenM hu hx hm
def andF (a b : Fct) : Fct where
  p v := a.p v ∧ b.p v
  mono := fun v v' h ⟨h1, h2⟩ => ⟨a.mono v v' h h1, b.mono v v' h h2⟩
/-- what the engine of All owns: the queue and what is known and firm -/
def StA (b9 kb fb : Nat) (nw fm : List Fc) (H : Hp) : Prop := ∃ sv es c es' c' q Hq, H = (b9, .cells #[sv] 26 (0, 0)) :: (kb, .map es c) :: ([(fb, .map es' c')] ++ Hq) ∧ SRow 41 6 sv nw.length (nw.flatMap Fc.cells) Hq ∧ SetE Fc.val es nw ∧ SetE Fc.val es' q ∧ ∀ f, f ∈ q ↔ f ∈ fm
/-- what the engine of Next owns -/
def StN (c : List Fc) (kb fb nb : Nat) (nw fm : List Fc) (H : Hp) : Prop := ∃ es c1 es2 c2 q es3 c3, H = (nb, .map es3 c3) :: (kb, .map es c1) :: [(fb, .map es2 c2)] ∧ SetE Fc.val es3 nw ∧ SetE Fc.val es c ∧ SetE Fc.val es2 q ∧ (∀ f, f ∈ q ↔ f ∈ fm) ∧ Born es3 c3
theorem emitA_c (f : Fc) (nw fm : List Fc) (m : Nat) (hm : m ≤ 65536) (g b7 b8 b9 kb fb : Nat) (c0 c1 c3 c4 c5 c6 c7 c8 c9 c10 sv : Value) (es es2 : Array MapEntry) (c c2 : Nat) (q : List Fc) (Hq : Hp) (hr : SRow 41 6 sv nw.length (nw.flatMap Fc.cells) Hq) (hE : SetE Fc.val es nw) (hF : SetE Fc.val es2 q) (hq : ∀ f, f ∈ q ↔ f ∈ fm) : Tri Tryz.prog 55 #[Fc.val f, .pointer (some ⟨b7, 0, none⟩), .pointer (some ⟨b8, 0, none⟩), .pointer (some ⟨b9, 0, none⟩)] ((b9, .cells #[sv] 26 (0, 0)) :: (kb, .map es c) :: ([(fb, .map es2 c2)] ++ Hq)) [objF b7 (.cells #[.pointer (some ⟨g, 0, none⟩)] 85 (0, 0)), objF b8 (.cells #[.int .i64 (m : Int)] 3 (0, 0)), objF g (.cells #[c0, c1, .map (some kb), c3, c4, c5, c6, c7, c8, c9, c10] 94 (0, 0))] (fun _ : {H : Hp // StA b9 kb fb (stpA m f nw) fm H} => .tuple #[]) (fun y => y.1) (fun _ => []) := by
 refine tri_of_body Tryz.func55 rfl rfl Tryz.ntmps55 rfl fun v0 => ?_
 refine run_seq (run_region (ops_box rfl rfl fun b1 => ?_))
 refine ops_nil (fin_next rfl (run_seq ?_))
 refine run_draw' (by kernel_rfl) ?_
 refine any_sq 8 [0, 1, 2, 3, 4, 5, 6, 7] (by kernel_rfl) (fun _ a b => ⟨a, b⟩) ?_
 refine sq_val rfl (yld_loadO Tryz.isAgg85 rfl (fun v _ h => by exact h.1) rfl) rfl ?_
 refine sq_val rfl (yld_nilck rfl) rfl ?_
 refine sq_val rfl (yld_field Tryz.runUnderlying94 rfl rfl rfl Tryz.sizeOf88) rfl ?_
 refine sq_val rfl (yld_loadO Tryz.isAgg88 rfl (fun v _ h => by exact h.2.2.1) rfl) rfl ?_
 refine sq_val rfl (yld_lenSet hE Tryz.runUnderlying88 rfl (fun v h _ => (h.own _ (List.mem_of_getElem? (i := 2) rfl)).1)) rfl ?_
 refine sq_val rfl (yld_loadO Tryz.isAgg3 rfl (fun v _ h => by exact h.2.1) rfl) rfl ?_
 refine sq_valB rfl (yld_leq rfl rfl) rfl fun r1 hr1 => ?_
 refine sq_val rfl (yld_move rfl) rfl ?_
 refine sq_nil ?_
 cases r1
 ·
  replace hr1 := of_decide_eq_false hr1
  refine any_sq 0 [8, 9, 10, 11, 12, 13, 14, 15] (by kernel_rfl) (fun _ a b => ⟨a, b⟩) ?_
  refine sq_no rfl rfl rfl rfl rfl ?_
  refine sq_no rfl rfl rfl rfl rfl ?_
  refine sq_no rfl rfl rfl rfl rfl ?_
  refine sq_no rfl rfl rfl rfl rfl ?_
  refine sq_no rfl rfl rfl rfl rfl ?_
  refine sq_no rfl rfl rfl rfl rfl ?_
  refine sq_no rfl rfl rfl rfl rfl ?_
  refine sq_val rfl (yld_pick_f rfl rfl) rfl ?_
  refine sq_nil ?_
  refine any_done (by kernel_rfl) ?_
  refine fin_next rfl (run_cond_f rfl (run_skip (fin_end rfl ?_)))
  have e0 : stpA m f nw = nw := by unfold stpA; rw [if_neg (by rintro ⟨q1, q2⟩; first | omega | exact absurd (by assumption) q2)]
  exact end0 Tryz.results55 ⟨_, sv, es, c, es2, c2, q, Hq, rfl, by rw [e0]; exact hr, by rw [e0]; exact hE, hF, hq⟩ rfl (pf_takeB (pf_cons pf_here) (pf_takeB (pf_cons pf_here) (pf_takeO (pf_cons pf_hereO) pf_lastB))) (fun _ _ _ => trivial)
 ·
  replace hr1 := of_decide_eq_true hr1
  refine any_sq 0 [8, 9, 10, 11, 12, 13, 14, 15] (by kernel_rfl) (fun _ a b => ⟨a, b⟩) ?_
  refine sq_valY rfl rfl rfl (yld_loadO Tryz.isAgg85 rfl (fun v _ h => by exact h.1) rfl) rfl ?_
  refine sq_valY rfl rfl rfl (yld_nilck rfl) rfl ?_
  refine sq_valY rfl rfl rfl (yld_field Tryz.runUnderlying94 rfl rfl rfl Tryz.sizeOf88) rfl ?_
  refine sq_valY rfl rfl rfl (yld_loadO Tryz.isAgg88 rfl (fun v _ h => by exact h.2.2.1) rfl) rfl ?_
  refine sq_valY rfl rfl rfl (yld_loadS 0 Tryz.isAgg41 Tryz.sizeOf41 rfl rfl rfl) rfl ?_
  refine sq_valYB rfl rfl rfl (yld_lookSet (k := f) keyFc Tryz.runUnderlying88 Tryz.zeroValue4 rfl rfl hE (fun v h _ => (h.own _ (List.mem_of_getElem? (i := 2) rfl)).1)) rfl fun r2 hr2 => ?_
  refine sq_valY rfl rfl rfl (yld_not rfl) rfl ?_
  refine sq_val rfl (yld_pick_t rfl rfl) rfl ?_
  refine sq_nil ?_
  refine any_done (by kernel_rfl) ?_
  refine fin_next rfl ?_
  cases r2
  ·
   replace hr2 := of_decide_eq_false hr2
   refine run_cond_t rfl (run_seq ?_)
   refine run_drawH ((b1, .cells #[.int .i64 (Fc.kind f), str (Fc.a f), str (Fc.b f), str (Fc.r f), .int .i64 (Fc.lo f), .int .i64 (Fc.hi f)] 41 (0, 0)) :: ((b9, .cells #[sv] 26 (0, 0)) :: [])) (by kernel_rfl) ?_
   refine any_sq 1 [0, 1, 2, 3, 4] (by kernel_rfl) (fun _ a b => ⟨Vw.sat.sub (a.perm (pf_takeB pf_here pf_here)), b⟩) ?_
   refine sq_val rfl (yld_loadO Tryz.isAgg85 rfl (fun v _ h => by exact h.1) rfl) rfl ?_
   refine sq_val rfl (yld_nilck rfl) rfl ?_
   refine sq_val rfl (yld_field Tryz.runUnderlying94 rfl rfl rfl Tryz.sizeOf88) rfl ?_
   refine sq_val rfl (yld_loadO Tryz.isAgg88 rfl (fun v _ h => by exact h.2.2.1) rfl) rfl ?_
   refine sq_val rfl (yld_loadS 0 Tryz.isAgg41 Tryz.sizeOf41 rfl rfl rfl) rfl ?_
   refine sq_nil ?_
   refine any_one 5 rfl (by kernel_rfl) ?_
   refine ops_join (k := f) 2 keyFc (.inr rfl) Tryz.runUnderlying88 rfl rfl rfl rfl hE fun ej1 cj1 hj1 => ?_
   refine ops_nil (fin_inv rfl (any_next (fun _ a b => ⟨Vw.sat.sub (a.perm (pf_takeB pf_here pf_here)), b⟩) ?_))
   refine any_done (by kernel_rfl) ?_
   refine fin_next rfl (run_region (ops_val (yld_load 1 Tryz.isAgg26 rfl rfl rfl) rfl ?_))
   refine ops_val (yld_loadS 0 Tryz.isAgg41 Tryz.sizeOf41 rfl rfl rfl) rfl ?_
   refine ops_slit Tryz.runUnderlying26 Tryz.sizeOf41 Tryz.zeroValue41 rfl rfl rfl rfl rfl rfl fun b2 => ?_
   refine ops_append (news := List.flatMap Fc.cells [f]) elt_fc hr rfl rfl (pf_cons (pf_cons (pf_cons (pf_cons pf_last)))) rfl (own_news 0 rfl) (fun u hu => one_rows Fc.cells_one hu) (by simp only [maxLen]; omega) (by omega) rfl fun sv1 Hr1 hr1 => ?_
   have hq1 : SRow 41 6 sv1 (List.length (nw ++ [f])) (List.flatMap Fc.cells (nw ++ [f])) Hr1 := by rw [List.length_append, List.flatMap_append]; exact hr1
   refine ok_perm (pf_fB (pf_app pf_here) (pf_fB (pf_app pf_here) (pf_fB (pf_app pf_here) (pf_f1 (pf_app pf_here))))) ?_
   refine ops_storeRow 2 hq1 Tryz.sizeOf26 rfl rfl rfl rfl ?_
   refine ops_nil (fin_end rfl ?_)
   have e0 : stpA m f nw = nw ++ [f] := by unfold stpA; rw [if_pos ⟨by omega, by assumption⟩]
   exact end0 Tryz.results55 ⟨_, sv1, ej1, cj1, es2, c2, q, Hr1, rfl, by rw [e0]; exact hq1, by rw [e0]; rw [if_neg (by assumption)] at hj1; exact hj1, hF, hq⟩ rfl (pf_takeB (pf_cons (pf_cons pf_here)) (pf_takeB (pf_cons (pf_cons pf_here)) (pf_takeO (pf_cons (pf_cons pf_last)) (pf_cons pf_lastB)))) (fun _ _ _ => trivial)
  ·
   replace hr2 := of_decide_eq_true hr2
   refine run_cond_f rfl (run_skip (fin_end rfl ?_))
   have e0 : stpA m f nw = nw := by unfold stpA; rw [if_neg (by rintro ⟨q1, q2⟩; first | omega | exact absurd (by assumption) q2)]
   exact end0 Tryz.results55 ⟨_, sv, es, c, es2, c2, q, Hq, rfl, by rw [e0]; exact hr, by rw [e0]; exact hE, hF, hq⟩ rfl (pf_takeB (pf_cons pf_here) (pf_takeB (pf_cons pf_here) (pf_takeO (pf_cons pf_hereO) pf_lastB))) (fun _ _ _ => trivial)
theorem emitN_c (f : Fc) (cl nw fm : List Fc) (g b7 b9 kb fb nb : Nat) (c0 c1' c3 c4 c5 c6 c7 c8 c9 c10 : Value) (es es2 es3 : Array MapEntry) (c1 c2 c3' : Nat) (q : List Fc) (hE : SetE Fc.val es3 nw) (hK : SetE Fc.val es cl) (hF : SetE Fc.val es2 q) (hq : ∀ f, f ∈ q ↔ f ∈ fm) (hB : Born es3 c3') : Tri Tryz.prog 67 #[Fc.val f, .pointer (some ⟨b7, 0, none⟩), .pointer (some ⟨b9, 0, none⟩)] ((nb, .map es3 c3') :: (kb, .map es c1) :: [(fb, .map es2 c2)]) [objF b7 (.cells #[.pointer (some ⟨g, 0, none⟩)] 85 (0, 0)), objF b9 (.cells #[.map (some nb)] 88 (0, 0)), objF g (.cells #[c0, c1', .map (some kb), c3, c4, c5, c6, c7, c8, c9, c10] 94 (0, 0))] (fun _ : {H : Hp // StN cl kb fb nb (stpN cl f nw) fm H} => .tuple #[]) (fun y => y.1) (fun _ => []) := by
  refine tri_of_body Tryz.func67 rfl rfl Tryz.ntmps67 rfl fun v0 => ?_
  refine run_seq (run_region (ops_box rfl rfl fun b1 => ?_))
  refine ops_nil (fin_next rfl (run_seq ?_))
  refine run_draw' (by kernel_rfl) ?_
  refine any_sq 0 [0, 1, 2, 3, 4, 5, 6] (by kernel_rfl) (fun _ a b => ⟨a, b⟩) ?_
  refine sq_val rfl (yld_loadO Tryz.isAgg85 rfl (fun v _ h => by exact h.1) rfl) rfl ?_
  refine sq_val rfl (yld_nilck rfl) rfl ?_
  refine sq_val rfl (yld_field Tryz.runUnderlying94 rfl rfl rfl Tryz.sizeOf88) rfl ?_
  refine sq_val rfl (yld_loadO Tryz.isAgg88 rfl (fun v _ h => by exact h.2.2.1) rfl) rfl ?_
  refine sq_val rfl (yld_loadS 0 Tryz.isAgg41 Tryz.sizeOf41 rfl rfl rfl) rfl ?_
  refine sq_valB rfl (yld_lookSet (k := f) keyFc Tryz.runUnderlying88 Tryz.zeroValue4 rfl rfl hK (fun v h _ => (h.own _ (List.mem_of_getElem? (i := 2) rfl)).1)) rfl fun r1 hr1 => ?_
  refine sq_val rfl (yld_not rfl) rfl ?_
  refine sq_nil ?_
  refine any_done (by kernel_rfl) ?_
  refine fin_next rfl ?_
  cases r1
  · skip
    replace hr1 := of_decide_eq_false hr1
    refine run_cond_t rfl (run_region (ops_val (yld_loadO Tryz.isAgg88 rfl (fun v _ h => by exact h.2.1) rfl) rfl ?_))
    refine ops_val (yld_loadS 0 Tryz.isAgg41 Tryz.sizeOf41 rfl rfl rfl) rfl ?_
    refine ops_joinB (k := f) 1 keyFc (.inr rfl) Tryz.runUnderlying88 rfl rfl rfl rfl hE fun ej1 cj1 hj1 hbj1 => ?_
    refine ops_nil (fin_end rfl ?_)
    have hn0 : f ∉ cl := by assumption
    exact end0 Tryz.results67 ⟨_, es, c1, es2, c2, q, ej1, cj1, rfl, by unfold stpN; rw [show (if f ∈ cl ∨ f ∈ nw then nw else nw ++ [f]) = (if f ∈ nw then nw else nw ++ [f]) from by simp only [hn0, false_or]]; exact hj1, hK, hF, hq, (hbj1 hB)⟩ rfl (pf_takeB (pf_cons pf_here) (pf_takeB (pf_cons pf_here) (pf_cons pf_here))) (fun _ _ _ => trivial)
  · skip
    replace hr1 := of_decide_eq_true hr1
    refine run_cond_f rfl (run_skip (fin_end rfl ?_))
    exact end0 Tryz.results67 ⟨_, es, c1, es2, c2, q, es3, c3', rfl, by unfold stpN; rw [if_pos (.inl (by assumption))]; exact hE, hK, hF, hq, hB⟩ rfl (pf_takeB (pf_cons pf_here) (pf_takeB (pf_cons pf_here) (pf_cons pf_here))) (fun _ _ _ => trivial)
end Go.Proofs.YtpdbbglpbngeiaaGreatDoor
