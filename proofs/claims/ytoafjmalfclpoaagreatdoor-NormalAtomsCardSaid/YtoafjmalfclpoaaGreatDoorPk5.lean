/-
  Part of the proofs over this seat: the small logic, the data, the contracts of functions (no condition).
-/
import Derived.Test.YtoafjmalfclpoaaGreatDoorPk4
import Derived.Test.YtoafjmalfclpoaaGreatDoorPk2
import Derived.Test.YtoafjmalfclpoaaGreatDoorProg
import Derived.Test.YtoafjmalfclpoaaGreatDoorPk3
set_option linter.unusedVariables false
set_option linter.unusedSimpArgs false
set_option linter.unusedSectionVars false
/-
  My own contracts.
-/
namespace Go.Proofs.YtoafjmalfclpoaaGreatDoor
open Go Go.Sx Go.Proofs
set_option linter.unusedVariables false
attribute [local irreducible] Code.wp wpList wpAnyH

open Go.Vs
theorem field_c {g : FuncId} (used : Bool) (s : Str) (q : Str → Bool) (hT : Fn0 Tryz.prog g #[str s] (.bool (q s))) : Fn0 Tryz.prog 71 #[.bool used, str s, .func (.func g) #[] #[]] (.bool (fldS used s q)) := by
  refine tri_of_body Tryz.func71 rfl rfl Tryz.ntmps71 rfl fun v0 => ?_
  refine run_seq (run_region (ops_val (yld_assign rfl) rfl (ops_nil (fin_next rfl (run_seq (run_region (ops_val (yld_move rfl) rfl ?_)))))))
  refine ops_val (yld_move rfl) rfl ?_
  cases used
  · skip
    refine ops_no rfl rfl rfl rfl (ops_no rfl rfl rfl rfl (ops_no rfl rfl rfl rfl (ops_val (yld_pick_f rfl rfl) rfl ?_)))
    refine ops_val (yld_move rfl) rfl (ops_yes rfl rfl (ops_val (yld_move rfl) rfl (ops_yes rfl rfl (ops_val (yld_not rfl) rfl ?_))))
    refine ops_yes rfl rfl (ops_val (yld_move rfl) rfl (ops_yes rfl rfl (ops_val (yld_move rfl) rfl (ops_yes rfl rfl (ops_valB (yld_seql rfl rfl) rfl fun r1 hr1 => ?_)))))
    refine ops_yes rfl rfl (ops_val (yld_pick_t rfl rfl) rfl ?_)
    refine ops_val (yld_pick_f rfl rfl) rfl ?_
    refine ops_val (yld_assign rfl) rfl (ops_nil (fin_next rfl (run_ret ?_)))
    exact ret1 Tryz.results71 () (get_bool rfl (by unfold fldS; subst_vars; rw [Bool.eq_iff_iff]; simp_all)) (.refl _) (fun _ _ _ => trivial)
  · skip
    refine ops_yes rfl rfl (ops_val (yld_move rfl) rfl (ops_yes rfl rfl (ops_val (yld_move rfl) rfl (ops_yes rfl rfl (ops_calldB (hT) rfl rfl pf_nil (fun _ _ _ => by exact trivial) rfl fun r2 hr2 => ?_)))))
    refine ops_val (yld_pick_t rfl rfl) rfl ?_
    refine ops_val (yld_move rfl) rfl ?_
    cases r2
    · skip
      refine ops_yes rfl rfl (ops_val (yld_move rfl) rfl (ops_yes rfl rfl (ops_val (yld_not rfl) rfl ?_)))
      refine ops_yes rfl rfl (ops_val (yld_move rfl) rfl (ops_no rfl rfl rfl rfl (ops_no rfl rfl rfl rfl (ops_yes rfl rfl (ops_val (yld_pick_f rfl rfl) rfl ?_)))))
      refine ops_val (yld_pick_f rfl rfl) rfl ?_
      refine ops_val (yld_assign rfl) rfl (ops_nil (fin_next rfl (run_ret ?_)))
      exact ret1 Tryz.results71 () (get_bool rfl (by unfold fldS; subst_vars; rw [Bool.eq_iff_iff]; simp_all)) (.refl _) (fun _ _ _ => trivial)
    · skip
      refine ops_no rfl rfl rfl rfl (ops_no rfl rfl rfl rfl (ops_no rfl rfl rfl rfl (ops_no rfl rfl rfl rfl (ops_no rfl rfl rfl rfl (ops_no rfl rfl rfl rfl (ops_val (yld_pick_t rfl rfl) rfl ?_))))))
      refine ops_val (yld_assign rfl) rfl (ops_nil (fin_next rfl (run_ret ?_)))
      exact ret1 Tryz.results71 () (get_bool rfl (by unfold fldS; subst_vars; rw [Bool.eq_iff_iff]; simp_all)) (.refl _) (fun _ _ _ => trivial)

theorem isValid_c (p : Pc) (hp : p.sm) : Tri Tryz.prog 41 #[Pc.val p] [] [tabN] (fun _ : Unit => .bool p.valid) (fun _ => []) (fun _ => []) := by
 refine tri_of_body Tryz.func41 rfl rfl Tryz.ntmps41 rfl fun v0 => ?_
 obtain ⟨ha, hb, hc, hr, hs, ht⟩ := hp
 refine run_seq (run_region (ops_box rfl rfl fun b1 => ?_))
 refine ops_val (yld_assign rfl) rfl (ops_nil (fin_next rfl (run_seq (run_seq (run_region (ops_val (yld_field Tryz.runUnderlying31 rfl rfl rfl Tryz.sizeOf3) rfl ?_))))))
 refine ops_val (yld_load 0 Tryz.isAgg3 rfl rfl rfl) rfl ?_
 refine ops_valB (yld_lss rfl rfl) rfl fun r1 hr1 => ?_
 refine ops_val (yld_move rfl) rfl ?_
 refine ops_cut 4 ((decide ((Pc.kind p) < 1)) || (decide (9 < (Pc.kind p)))) (fun r => [(0, Pc.val p), (1, .pointer (some ⟨b1, 0, none⟩)), (2, .bool false), (13, .bool r)]) ?_ fun r2 hr2 => ?_
 ·
  cases r1
  ·
   have qr2 := hr1
   replace hr1 := of_decide_eq_false hr1
   refine ops_yes rfl rfl (ops_val (yld_field Tryz.runUnderlying31 rfl rfl rfl Tryz.sizeOf3) rfl ?_)
   refine ops_yes rfl rfl (ops_val (yld_load 0 Tryz.isAgg3 rfl rfl rfl) rfl ?_)
   refine ops_yes rfl rfl (ops_valB (yld_gtr rfl rfl) rfl fun r3 hr3 => ?_)
   refine ops_val (yld_pick_f rfl rfl) rfl ?_
   refine ops_nil (fin_inv rfl ?_)
   exact met ⟨rfl, rfl, rfl, (get_bool rfl (jof qr2 hr3)), trivial⟩
  ·
   have qr2 := hr1
   replace hr1 := of_decide_eq_true hr1
   refine ops_no rfl rfl rfl rfl (ops_no rfl rfl rfl rfl (ops_no rfl rfl rfl rfl (ops_val (yld_pick_t rfl rfl) rfl ?_)))
   refine ops_nil (fin_inv rfl ?_)
   exact met ⟨rfl, rfl, rfl, (get_bool rfl (jot qr2)), trivial⟩
 ·
  refine ops_val (yld_move rfl) rfl ?_
  refine ops_cut 4 ((((decide ((Pc.kind p) < 1)) || (decide (9 < (Pc.kind p))))) || (decide ((Pc.frm p) < (-1)))) (fun r => [(0, Pc.val p), (1, .pointer (some ⟨b1, 0, none⟩)), (2, .bool false), (18, .bool r)]) ?_ fun r4 hr4 => ?_
  ·
   cases r2
   ·
    have qr4 := hr2
    simp at hr2
    refine ops_yes rfl rfl (ops_val (yld_field Tryz.runUnderlying31 rfl rfl rfl Tryz.sizeOf3) rfl ?_)
    refine ops_yes rfl rfl (ops_val (yld_load 0 Tryz.isAgg3 rfl rfl rfl) rfl ?_)
    refine ops_yes rfl rfl (ops_valB (yld_lss rfl rfl) rfl fun r5 hr5 => ?_)
    refine ops_val (yld_pick_f rfl rfl) rfl ?_
    refine ops_nil (fin_inv rfl ?_)
    exact met ⟨rfl, rfl, rfl, (get_bool rfl (jof qr4 hr5)), trivial⟩
   ·
    have qr4 := hr2
    simp at hr2
    refine ops_no rfl rfl rfl rfl (ops_no rfl rfl rfl rfl (ops_no rfl rfl rfl rfl (ops_val (yld_pick_t rfl rfl) rfl ?_)))
    refine ops_nil (fin_inv rfl ?_)
    exact met ⟨rfl, rfl, rfl, (get_bool rfl (jot qr4)), trivial⟩
  ·
   refine ops_val (yld_move rfl) rfl ?_
   refine ops_cut 4 ((((((decide ((Pc.kind p) < 1)) || (decide (9 < (Pc.kind p))))) || (decide ((Pc.frm p) < (-1))))) || (decide (1024 ≤ (Pc.frm p)))) (fun r => [(0, Pc.val p), (1, .pointer (some ⟨b1, 0, none⟩)), (2, .bool false), (23, .bool r)]) ?_ fun r6 hr6 => ?_
   ·
    cases r4
    ·
     have qr6 := hr4
     simp at hr4
     refine ops_yes rfl rfl (ops_val (yld_field Tryz.runUnderlying31 rfl rfl rfl Tryz.sizeOf3) rfl ?_)
     refine ops_yes rfl rfl (ops_val (yld_load 0 Tryz.isAgg3 rfl rfl rfl) rfl ?_)
     refine ops_yes rfl rfl (ops_valB (yld_geq rfl rfl) rfl fun r7 hr7 => ?_)
     refine ops_val (yld_pick_f rfl rfl) rfl ?_
     refine ops_nil (fin_inv rfl ?_)
     exact met ⟨rfl, rfl, rfl, (get_bool rfl (jof qr6 hr7)), trivial⟩
    ·
     have qr6 := hr4
     simp at hr4
     refine ops_no rfl rfl rfl rfl (ops_no rfl rfl rfl rfl (ops_no rfl rfl rfl rfl (ops_val (yld_pick_t rfl rfl) rfl ?_)))
     refine ops_nil (fin_inv rfl ?_)
     exact met ⟨rfl, rfl, rfl, (get_bool rfl (jot qr6)), trivial⟩
   ·
    refine ops_nil (fin_next rfl ?_)
    cases r6
    ·
     simp at hr6
     obtain ⟨u, hx⟩ : ∃ u, nuseL[p.kind.toNat]? = some u := ⟨_, List.getElem?_eq_getElem (show p.kind.toNat < 10 by omega)⟩
     have hus : nus p.kind = u := by simp [nus, hx]
     obtain ⟨ua, ub, uc, ur, us, ut, un⟩ := u
     refine run_cond_f rfl (run_skip (fin_next rfl (run_seq (run_region (ops_val (yld_field Tryz.runUnderlying31 rfl rfl rfl Tryz.sizeOf3) rfl ?_)))))
     refine ops_val (yld_load 0 Tryz.isAgg3 rfl rfl rfl) rfl ?_
     refine ops_val (yld_indexA Tryz.runUnderlying112 Tryz.sizeOf111 rfl rfl (by show (0 : Int) ≤ (Pc.kind p); omega) (by show (Pc.kind p) < (10 : Int); omega)) rfl ?_
     refine ops_val (yld_loadRS (ad := some ⟨1, 0, none⟩) (us := NUse.cells ⟨ua, ub, uc, ur, us, ut, un⟩) Tryz.isAgg111 Tryz.sizeOf111 rfl (fun v _ h => h.1) (NUse.cells_len _) (row_cells NUse.cells_len hx)) rfl ?_
     refine ops_alloc Tryz.zeroValue111 rfl fun b2 => ?_
     refine ops_store 0 Tryz.sizeOf111 rfl rfl rfl rfl rfl rfl ?_
     refine ops_nil (fin_next rfl (run_seq (run_region (ops_val (yld_assign rfl) rfl (ops_nil (fin_next rfl (run_seq ?_)))))))
     refine run_region (ops_val (yld_assign rfl) rfl (ops_nil (fin_next rfl (run_seq (run_seq (run_region (ops_val (yld_field Tryz.runUnderlying111 rfl rfl rfl Tryz.sizeOf4) rfl ?_)))))))
     refine ops_val (yld_load 0 Tryz.isAgg4 rfl rfl rfl) rfl ?_
     refine ops_nil (fin_next rfl ?_)
     cases un
     ·
      refine run_cond_f rfl (run_seq (run_region (ops_val (yld_field Tryz.runUnderlying31 rfl rfl rfl Tryz.sizeOf3) rfl ?_)))
      refine ops_val (yld_load 1 Tryz.isAgg3 rfl rfl rfl) rfl ?_
      refine ops_valB (yld_neq rfl rfl) rfl fun r8 hr8 => ?_
      refine ops_val (yld_move rfl) rfl ?_
      refine ops_cut 4 (((Pc.lo p) != 0) || ((Pc.hi p) != 0)) (fun r => [(0, Pc.val p), (1, .pointer (some ⟨b1, 0, none⟩)), (2, .bool false), (23, .bool false), (24, .pointer (some ⟨b1, 0, none⟩)), (25, .int .i64 (Pc.kind p)), (26, .pointer (some (rad (some ⟨1, 0, none⟩) ((Pc.kind p).toNat * 7)))), (27, .agg #[.bool ua, .bool ub, .bool uc, .bool ur, .bool us, .bool ut, .bool false]), (3, .pointer (some ⟨b2, 0, none⟩)), (4, .func (.func 71) #[] #[]), (5, .func (.func 72) #[] #[]), (28, .pointer (some ⟨b2, 6, none⟩)), (29, .bool false), (52, .bool r)]) ?_ fun r9 hr9 => ?_
      ·
       cases r8
       ·
        have qr9 := hr8
        replace hr8 := eq_of_bne hr8
        refine ops_yes rfl rfl (ops_val (yld_field Tryz.runUnderlying31 rfl rfl rfl Tryz.sizeOf3) rfl ?_)
        refine ops_yes rfl rfl (ops_val (yld_load 1 Tryz.isAgg3 rfl rfl rfl) rfl ?_)
        refine ops_yes rfl rfl (ops_valB (yld_neq rfl rfl) rfl fun r10 hr10 => ?_)
        refine ops_val (yld_pick_f rfl rfl) rfl ?_
        refine ops_nil (fin_inv rfl ?_)
        exact met ⟨rfl, rfl, rfl, rfl, rfl, rfl, rfl, rfl, rfl, rfl, rfl, rfl, rfl, (get_bool rfl (jof qr9 hr10)), trivial⟩
       ·
        have qr9 := hr8
        replace hr8 := ne_of_bne hr8
        refine ops_no rfl rfl rfl rfl (ops_no rfl rfl rfl rfl (ops_no rfl rfl rfl rfl (ops_val (yld_pick_t rfl rfl) rfl ?_)))
        refine ops_nil (fin_inv rfl ?_)
        exact met ⟨rfl, rfl, rfl, rfl, rfl, rfl, rfl, rfl, rfl, rfl, rfl, rfl, rfl, (get_bool rfl (jot qr9)), trivial⟩
      ·
       refine ops_nil (fin_next rfl ?_)
       cases r9
       ·
        simp at hr9
        refine run_cond_f rfl (run_skip (fin_next rfl (run_seq (run_region (ops_val (yld_move rfl) rfl (ops_val (yld_field Tryz.runUnderlying111 rfl rfl rfl Tryz.sizeOf4) rfl ?_))))))
        refine ops_val (yld_load 0 Tryz.isAgg4 rfl rfl rfl) rfl ?_
        refine ops_val (yld_field Tryz.runUnderlying31 rfl rfl rfl Tryz.sizeOf9) rfl ?_
        refine ops_val (yld_load 1 Tryz.isAgg9 rfl rfl rfl) rfl ?_
        refine ops_calldB (field_c ua (Pc.a p) atomS (isAtom_c _ (by omega))) rfl rfl pf_nil (fun _ _ _ => by exact trivial) rfl fun r11 hr11 => ?_
        refine ops_val (yld_move rfl) rfl ?_
        refine ops_cut 7 ((fldS ua (Pc.a p) atomS) && (fldS ub (Pc.b p) atomS)) (fun r => [(0, Pc.val p), (1, .pointer (some ⟨b1, 0, none⟩)), (2, .bool false), (23, .bool false), (24, .pointer (some ⟨b1, 0, none⟩)), (25, .int .i64 (Pc.kind p)), (26, .pointer (some (rad (some ⟨1, 0, none⟩) ((Pc.kind p).toNat * 7)))), (27, .agg #[.bool ua, .bool ub, .bool uc, .bool ur, .bool us, .bool ut, .bool false]), (3, .pointer (some ⟨b2, 0, none⟩)), (4, .func (.func 71) #[] #[]), (5, .func (.func 72) #[] #[]), (28, .pointer (some ⟨b2, 6, none⟩)), (29, .bool false), (52, .bool false), (66, .bool r)]) ?_ fun r12 hr12 => ?_
        ·
         cases r11
         ·
          have qr12 := hr11
          refine ops_no rfl rfl rfl rfl (ops_no rfl rfl rfl rfl (ops_no rfl rfl rfl rfl (ops_no rfl rfl rfl rfl (ops_no rfl rfl rfl rfl (ops_no rfl rfl rfl rfl (ops_val (yld_pick_f rfl rfl) rfl ?_))))))
          refine ops_nil (fin_inv rfl ?_)
          exact met ⟨rfl, rfl, rfl, rfl, rfl, rfl, rfl, rfl, rfl, rfl, rfl, rfl, rfl, rfl, (get_bool rfl (jaf qr12)), trivial⟩
         ·
          have qr12 := hr11
          refine ops_yes rfl rfl (ops_val (yld_move rfl) rfl (ops_yes rfl rfl (ops_val (yld_field Tryz.runUnderlying111 rfl rfl rfl Tryz.sizeOf4) rfl ?_)))
          refine ops_yes rfl rfl (ops_val (yld_load 0 Tryz.isAgg4 rfl rfl rfl) rfl ?_)
          refine ops_yes rfl rfl (ops_val (yld_field Tryz.runUnderlying31 rfl rfl rfl Tryz.sizeOf9) rfl ?_)
          refine ops_yes rfl rfl (ops_val (yld_load 1 Tryz.isAgg9 rfl rfl rfl) rfl ?_)
          refine ops_yes rfl rfl (ops_calldB (field_c ub (Pc.b p) atomS (isAtom_c _ (by omega))) rfl rfl pf_nil (fun _ _ _ => by exact trivial) rfl fun r13 hr13 => ?_)
          refine ops_val (yld_pick_t rfl rfl) rfl ?_
          refine ops_nil (fin_inv rfl ?_)
          exact met ⟨rfl, rfl, rfl, rfl, rfl, rfl, rfl, rfl, rfl, rfl, rfl, rfl, rfl, rfl, (get_bool rfl (jat qr12 hr13)), trivial⟩
        ·
         refine ops_val (yld_move rfl) rfl ?_
         refine ops_cut 7 ((((fldS ua (Pc.a p) atomS) && (fldS ub (Pc.b p) atomS))) && (fldS uc (Pc.c p) atomS)) (fun r => [(0, Pc.val p), (1, .pointer (some ⟨b1, 0, none⟩)), (2, .bool false), (23, .bool false), (24, .pointer (some ⟨b1, 0, none⟩)), (25, .int .i64 (Pc.kind p)), (26, .pointer (some (rad (some ⟨1, 0, none⟩) ((Pc.kind p).toNat * 7)))), (27, .agg #[.bool ua, .bool ub, .bool uc, .bool ur, .bool us, .bool ut, .bool false]), (3, .pointer (some ⟨b2, 0, none⟩)), (4, .func (.func 71) #[] #[]), (5, .func (.func 72) #[] #[]), (28, .pointer (some ⟨b2, 6, none⟩)), (29, .bool false), (52, .bool false), (74, .bool r)]) ?_ fun r14 hr14 => ?_
         ·
          cases r12
          ·
           have qr14 := hr12
           simp at hr12
           refine ops_no rfl rfl rfl rfl (ops_no rfl rfl rfl rfl (ops_no rfl rfl rfl rfl (ops_no rfl rfl rfl rfl (ops_no rfl rfl rfl rfl (ops_no rfl rfl rfl rfl (ops_val (yld_pick_f rfl rfl) rfl ?_))))))
           refine ops_nil (fin_inv rfl ?_)
           exact met ⟨rfl, rfl, rfl, rfl, rfl, rfl, rfl, rfl, rfl, rfl, rfl, rfl, rfl, rfl, (get_bool rfl (jaf qr14)), trivial⟩
          ·
           have qr14 := hr12
           simp at hr12
           refine ops_yes rfl rfl (ops_val (yld_move rfl) rfl (ops_yes rfl rfl (ops_val (yld_field Tryz.runUnderlying111 rfl rfl rfl Tryz.sizeOf4) rfl ?_)))
           refine ops_yes rfl rfl (ops_val (yld_load 0 Tryz.isAgg4 rfl rfl rfl) rfl ?_)
           refine ops_yes rfl rfl (ops_val (yld_field Tryz.runUnderlying31 rfl rfl rfl Tryz.sizeOf9) rfl ?_)
           refine ops_yes rfl rfl (ops_val (yld_load 1 Tryz.isAgg9 rfl rfl rfl) rfl ?_)
           refine ops_yes rfl rfl (ops_calldB (field_c uc (Pc.c p) atomS (isAtom_c _ (by omega))) rfl rfl pf_nil (fun _ _ _ => by exact trivial) rfl fun r15 hr15 => ?_)
           refine ops_val (yld_pick_t rfl rfl) rfl ?_
           refine ops_nil (fin_inv rfl ?_)
           exact met ⟨rfl, rfl, rfl, rfl, rfl, rfl, rfl, rfl, rfl, rfl, rfl, rfl, rfl, rfl, (get_bool rfl (jat qr14 hr15)), trivial⟩
         ·
          refine ops_val (yld_move rfl) rfl ?_
          refine ops_cut 8 ((((((fldS ua (Pc.a p) atomS) && (fldS ub (Pc.b p) atomS))) && (fldS uc (Pc.c p) atomS))) && (fldS ur (Pc.r p) roleS)) (fun r => [(0, Pc.val p), (1, .pointer (some ⟨b1, 0, none⟩)), (2, .bool false), (23, .bool false), (24, .pointer (some ⟨b1, 0, none⟩)), (25, .int .i64 (Pc.kind p)), (26, .pointer (some (rad (some ⟨1, 0, none⟩) ((Pc.kind p).toNat * 7)))), (27, .agg #[.bool ua, .bool ub, .bool uc, .bool ur, .bool us, .bool ut, .bool false]), (3, .pointer (some ⟨b2, 0, none⟩)), (4, .func (.func 71) #[] #[]), (28, .pointer (some ⟨b2, 6, none⟩)), (29, .bool false), (52, .bool false), (83, .bool r)]) ?_ fun r16 hr16 => ?_
          ·
           cases r14
           ·
            have qr16 := hr14
            simp at hr14
            refine ops_no rfl rfl rfl rfl (ops_no rfl rfl rfl rfl (ops_no rfl rfl rfl rfl (ops_no rfl rfl rfl rfl (ops_no rfl rfl rfl rfl (ops_no rfl rfl rfl rfl (ops_no rfl rfl rfl rfl (ops_val (yld_pick_f rfl rfl) rfl ?_)))))))
            refine ops_nil (fin_inv rfl ?_)
            exact met ⟨rfl, rfl, rfl, rfl, rfl, rfl, rfl, rfl, rfl, rfl, rfl, rfl, rfl, (get_bool rfl (jaf qr16)), trivial⟩
           ·
            have qr16 := hr14
            simp at hr14
            refine ops_yes rfl rfl (ops_val (yld_move rfl) rfl (ops_yes rfl rfl (ops_val (yld_field Tryz.runUnderlying111 rfl rfl rfl Tryz.sizeOf4) rfl ?_)))
            refine ops_yes rfl rfl (ops_val (yld_load 0 Tryz.isAgg4 rfl rfl rfl) rfl ?_)
            refine ops_yes rfl rfl (ops_val (yld_field Tryz.runUnderlying31 rfl rfl rfl Tryz.sizeOf9) rfl ?_)
            refine ops_yes rfl rfl (ops_val (yld_load 1 Tryz.isAgg9 rfl rfl rfl) rfl ?_)
            refine ops_yes rfl rfl (ops_val (yld_move rfl) rfl (ops_yes rfl rfl (ops_calldB (field_c ur (Pc.r p) roleS (isRole_c _ (by omega))) rfl rfl pf_nil (fun _ _ _ => by exact trivial) rfl fun r17 hr17 => ?_)))
            refine ops_val (yld_pick_t rfl rfl) rfl ?_
            refine ops_nil (fin_inv rfl ?_)
            exact met ⟨rfl, rfl, rfl, rfl, rfl, rfl, rfl, rfl, rfl, rfl, rfl, rfl, rfl, (get_bool rfl (jat qr16 hr17)), trivial⟩
          ·
           refine ops_val (yld_move rfl) rfl ?_
           refine ops_cut 7 ((((((((fldS ua (Pc.a p) atomS) && (fldS ub (Pc.b p) atomS))) && (fldS uc (Pc.c p) atomS))) && (fldS ur (Pc.r p) roleS))) && (fldS us (Pc.s p) roleS)) (fun r => [(0, Pc.val p), (1, .pointer (some ⟨b1, 0, none⟩)), (2, .bool false), (23, .bool false), (24, .pointer (some ⟨b1, 0, none⟩)), (25, .int .i64 (Pc.kind p)), (26, .pointer (some (rad (some ⟨1, 0, none⟩) ((Pc.kind p).toNat * 7)))), (27, .agg #[.bool ua, .bool ub, .bool uc, .bool ur, .bool us, .bool ut, .bool false]), (3, .pointer (some ⟨b2, 0, none⟩)), (4, .func (.func 71) #[] #[]), (28, .pointer (some ⟨b2, 6, none⟩)), (29, .bool false), (52, .bool false), (91, .bool r)]) ?_ fun r18 hr18 => ?_
           ·
            cases r16
            ·
             have qr18 := hr16
             simp at hr16
             refine ops_no rfl rfl rfl rfl (ops_no rfl rfl rfl rfl (ops_no rfl rfl rfl rfl (ops_no rfl rfl rfl rfl (ops_no rfl rfl rfl rfl (ops_no rfl rfl rfl rfl (ops_val (yld_pick_f rfl rfl) rfl ?_))))))
             refine ops_nil (fin_inv rfl ?_)
             exact met ⟨rfl, rfl, rfl, rfl, rfl, rfl, rfl, rfl, rfl, rfl, rfl, rfl, rfl, (get_bool rfl (jaf qr18)), trivial⟩
            ·
             have qr18 := hr16
             simp at hr16
             refine ops_yes rfl rfl (ops_val (yld_move rfl) rfl (ops_yes rfl rfl (ops_val (yld_field Tryz.runUnderlying111 rfl rfl rfl Tryz.sizeOf4) rfl ?_)))
             refine ops_yes rfl rfl (ops_val (yld_load 0 Tryz.isAgg4 rfl rfl rfl) rfl ?_)
             refine ops_yes rfl rfl (ops_val (yld_field Tryz.runUnderlying31 rfl rfl rfl Tryz.sizeOf9) rfl ?_)
             refine ops_yes rfl rfl (ops_val (yld_load 1 Tryz.isAgg9 rfl rfl rfl) rfl ?_)
             refine ops_yes rfl rfl (ops_calldB (field_c us (Pc.s p) roleS (isRole_c _ (by omega))) rfl rfl pf_nil (fun _ _ _ => by exact trivial) rfl fun r19 hr19 => ?_)
             refine ops_val (yld_pick_t rfl rfl) rfl ?_
             refine ops_nil (fin_inv rfl ?_)
             exact met ⟨rfl, rfl, rfl, rfl, rfl, rfl, rfl, rfl, rfl, rfl, rfl, rfl, rfl, (get_bool rfl (jat qr18 hr19)), trivial⟩
           ·
            refine ops_val (yld_move rfl) rfl ?_
            refine ops_cut 7 ((((((((((fldS ua (Pc.a p) atomS) && (fldS ub (Pc.b p) atomS))) && (fldS uc (Pc.c p) atomS))) && (fldS ur (Pc.r p) roleS))) && (fldS us (Pc.s p) roleS))) && (fldS ut (Pc.t p) roleS)) (fun r => [(0, Pc.val p), (1, .pointer (some ⟨b1, 0, none⟩)), (2, .bool false), (23, .bool false), (24, .pointer (some ⟨b1, 0, none⟩)), (25, .int .i64 (Pc.kind p)), (26, .pointer (some (rad (some ⟨1, 0, none⟩) ((Pc.kind p).toNat * 7)))), (27, .agg #[.bool ua, .bool ub, .bool uc, .bool ur, .bool us, .bool ut, .bool false]), (3, .pointer (some ⟨b2, 0, none⟩)), (28, .pointer (some ⟨b2, 6, none⟩)), (29, .bool false), (52, .bool false), (99, .bool r)]) ?_ fun r20 hr20 => ?_
            ·
             cases r18
             ·
              have qr20 := hr18
              simp at hr18
              refine ops_no rfl rfl rfl rfl (ops_no rfl rfl rfl rfl (ops_no rfl rfl rfl rfl (ops_no rfl rfl rfl rfl (ops_no rfl rfl rfl rfl (ops_no rfl rfl rfl rfl (ops_val (yld_pick_f rfl rfl) rfl ?_))))))
              refine ops_nil (fin_inv rfl ?_)
              exact met ⟨rfl, rfl, rfl, rfl, rfl, rfl, rfl, rfl, rfl, rfl, rfl, rfl, (get_bool rfl (jaf qr20)), trivial⟩
             ·
              have qr20 := hr18
              simp at hr18
              refine ops_yes rfl rfl (ops_val (yld_move rfl) rfl (ops_yes rfl rfl (ops_val (yld_field Tryz.runUnderlying111 rfl rfl rfl Tryz.sizeOf4) rfl ?_)))
              refine ops_yes rfl rfl (ops_val (yld_load 0 Tryz.isAgg4 rfl rfl rfl) rfl ?_)
              refine ops_yes rfl rfl (ops_val (yld_field Tryz.runUnderlying31 rfl rfl rfl Tryz.sizeOf9) rfl ?_)
              refine ops_yes rfl rfl (ops_val (yld_load 1 Tryz.isAgg9 rfl rfl rfl) rfl ?_)
              refine ops_yes rfl rfl (ops_calldB (field_c ut (Pc.t p) roleS (isRole_c _ (by omega))) rfl rfl pf_nil (fun _ _ _ => by exact trivial) rfl fun r21 hr21 => ?_)
              refine ops_val (yld_pick_t rfl rfl) rfl ?_
              refine ops_nil (fin_inv rfl ?_)
              exact met ⟨rfl, rfl, rfl, rfl, rfl, rfl, rfl, rfl, rfl, rfl, rfl, rfl, (get_bool rfl (jat qr20 hr21)), trivial⟩
            ·
             refine ops_val (yld_assign rfl) rfl (ops_nil (fin_next rfl (run_ret ?_)))
             exact ret1 Tryz.results41 () (get_bool rfl (by unfold Pc.valid; rw [if_neg (by omega)]; simp only [hus]; rw [if_neg (by simp <;> omega), if_neg (by simp <;> omega)]; exact hr20.symm)) (.refl _) (fun _ _ _ => trivial)
       ·
        simp at hr9
        refine run_cond_t rfl (run_seq (run_region (ops_val (yld_assign rfl) rfl (ops_nil (fin_next rfl (run_ret ?_))))))
        exact ret1 Tryz.results41 () (get_bool rfl (by unfold Pc.valid; rw [if_neg (by omega)]; simp only [hus]; first | (rw [if_pos (by first | (simp; omega) | omega)]) | (rw [if_neg (by simp), if_pos (by simp; omega)]))) (.refl _) (fun _ _ _ => trivial)
     ·
      refine run_cond_t rfl (run_seq (run_region (ops_val (yld_assign rfl) rfl (ops_nil (fin_next rfl (run_seq (run_region ?_)))))))
      refine ops_val (yld_field Tryz.runUnderlying31 rfl rfl rfl Tryz.sizeOf3) rfl ?_
      refine ops_val (yld_load 1 Tryz.isAgg3 rfl rfl rfl) rfl ?_
      refine ops_valB (yld_lss rfl rfl) rfl fun r22 hr22 => ?_
      refine ops_val (yld_move rfl) rfl ?_
      refine ops_cut 6 ((decide ((Pc.lo p) < (-1099511627776))) || (decide ((Pc.hi p) < (Pc.lo p)))) (fun r => [(0, Pc.val p), (1, .pointer (some ⟨b1, 0, none⟩)), (2, .bool false), (23, .bool false), (24, .pointer (some ⟨b1, 0, none⟩)), (25, .int .i64 (Pc.kind p)), (26, .pointer (some (rad (some ⟨1, 0, none⟩) ((Pc.kind p).toNat * 7)))), (27, .agg #[.bool ua, .bool ub, .bool uc, .bool ur, .bool us, .bool ut, .bool true]), (3, .pointer (some ⟨b2, 0, none⟩)), (4, .func (.func 71) #[] #[]), (5, .func (.func 73) #[] #[]), (28, .pointer (some ⟨b2, 6, none⟩)), (29, .bool true), (39, .bool r)]) ?_ fun r23 hr23 => ?_
      ·
       cases r22
       ·
        have qr23 := hr22
        replace hr22 := of_decide_eq_false hr22
        refine ops_yes rfl rfl (ops_val (yld_field Tryz.runUnderlying31 rfl rfl rfl Tryz.sizeOf3) rfl ?_)
        refine ops_yes rfl rfl (ops_val (yld_load 1 Tryz.isAgg3 rfl rfl rfl) rfl ?_)
        refine ops_yes rfl rfl (ops_val (yld_field Tryz.runUnderlying31 rfl rfl rfl Tryz.sizeOf3) rfl ?_)
        refine ops_yes rfl rfl (ops_val (yld_load 1 Tryz.isAgg3 rfl rfl rfl) rfl ?_)
        refine ops_yes rfl rfl (ops_valB (yld_gtr rfl rfl) rfl fun r24 hr24 => ?_)
        refine ops_val (yld_pick_f rfl rfl) rfl ?_
        refine ops_nil (fin_inv rfl ?_)
        exact met ⟨rfl, rfl, rfl, rfl, rfl, rfl, rfl, rfl, rfl, rfl, rfl, rfl, rfl, (get_bool rfl (jof qr23 hr24)), trivial⟩
       ·
        have qr23 := hr22
        replace hr22 := of_decide_eq_true hr22
        refine ops_no rfl rfl rfl rfl (ops_no rfl rfl rfl rfl (ops_no rfl rfl rfl rfl (ops_no rfl rfl rfl rfl (ops_no rfl rfl rfl rfl (ops_val (yld_pick_t rfl rfl) rfl ?_)))))
        refine ops_nil (fin_inv rfl ?_)
        exact met ⟨rfl, rfl, rfl, rfl, rfl, rfl, rfl, rfl, rfl, rfl, rfl, rfl, rfl, (get_bool rfl (jot qr23)), trivial⟩
      ·
       refine ops_val (yld_move rfl) rfl ?_
       refine ops_cut 4 ((((decide ((Pc.lo p) < (-1099511627776))) || (decide ((Pc.hi p) < (Pc.lo p))))) || (decide (1099511627776 < (Pc.hi p)))) (fun r => [(0, Pc.val p), (1, .pointer (some ⟨b1, 0, none⟩)), (2, .bool false), (23, .bool false), (24, .pointer (some ⟨b1, 0, none⟩)), (25, .int .i64 (Pc.kind p)), (26, .pointer (some (rad (some ⟨1, 0, none⟩) ((Pc.kind p).toNat * 7)))), (27, .agg #[.bool ua, .bool ub, .bool uc, .bool ur, .bool us, .bool ut, .bool true]), (3, .pointer (some ⟨b2, 0, none⟩)), (4, .func (.func 71) #[] #[]), (5, .func (.func 73) #[] #[]), (28, .pointer (some ⟨b2, 6, none⟩)), (29, .bool true), (44, .bool r)]) ?_ fun r25 hr25 => ?_
       ·
        cases r23
        ·
         have qr25 := hr23
         simp at hr23
         refine ops_yes rfl rfl (ops_val (yld_field Tryz.runUnderlying31 rfl rfl rfl Tryz.sizeOf3) rfl ?_)
         refine ops_yes rfl rfl (ops_val (yld_load 1 Tryz.isAgg3 rfl rfl rfl) rfl ?_)
         refine ops_yes rfl rfl (ops_valB (yld_gtr rfl rfl) rfl fun r26 hr26 => ?_)
         refine ops_val (yld_pick_f rfl rfl) rfl ?_
         refine ops_nil (fin_inv rfl ?_)
         exact met ⟨rfl, rfl, rfl, rfl, rfl, rfl, rfl, rfl, rfl, rfl, rfl, rfl, rfl, (get_bool rfl (jof qr25 hr26)), trivial⟩
        ·
         have qr25 := hr23
         simp at hr23
         refine ops_no rfl rfl rfl rfl (ops_no rfl rfl rfl rfl (ops_no rfl rfl rfl rfl (ops_val (yld_pick_t rfl rfl) rfl ?_)))
         refine ops_nil (fin_inv rfl ?_)
         exact met ⟨rfl, rfl, rfl, rfl, rfl, rfl, rfl, rfl, rfl, rfl, rfl, rfl, rfl, (get_bool rfl (jot qr25)), trivial⟩
       ·
        refine ops_nil (fin_next rfl ?_)
        cases r25
        ·
         simp at hr25
         refine run_cond_f rfl (run_skip (fin_next rfl (run_seq (run_region (ops_val (yld_move rfl) rfl (ops_val (yld_field Tryz.runUnderlying111 rfl rfl rfl Tryz.sizeOf4) rfl ?_))))))
         refine ops_val (yld_load 0 Tryz.isAgg4 rfl rfl rfl) rfl ?_
         refine ops_val (yld_field Tryz.runUnderlying31 rfl rfl rfl Tryz.sizeOf9) rfl ?_
         refine ops_val (yld_load 1 Tryz.isAgg9 rfl rfl rfl) rfl ?_
         refine ops_calldB (field_c ua (Pc.a p) atomS (isAtom_c _ (by omega))) rfl rfl pf_nil (fun _ _ _ => by exact trivial) rfl fun r27 hr27 => ?_
         refine ops_val (yld_move rfl) rfl ?_
         refine ops_cut 7 ((fldS ua (Pc.a p) atomS) && (fldS ub (Pc.b p) atomS)) (fun r => [(0, Pc.val p), (1, .pointer (some ⟨b1, 0, none⟩)), (2, .bool false), (23, .bool false), (24, .pointer (some ⟨b1, 0, none⟩)), (25, .int .i64 (Pc.kind p)), (26, .pointer (some (rad (some ⟨1, 0, none⟩) ((Pc.kind p).toNat * 7)))), (27, .agg #[.bool ua, .bool ub, .bool uc, .bool ur, .bool us, .bool ut, .bool true]), (3, .pointer (some ⟨b2, 0, none⟩)), (4, .func (.func 71) #[] #[]), (5, .func (.func 73) #[] #[]), (28, .pointer (some ⟨b2, 6, none⟩)), (29, .bool true), (44, .bool false), (66, .bool r)]) ?_ fun r28 hr28 => ?_
         ·
          cases r27
          ·
           have qr28 := hr27
           refine ops_no rfl rfl rfl rfl (ops_no rfl rfl rfl rfl (ops_no rfl rfl rfl rfl (ops_no rfl rfl rfl rfl (ops_no rfl rfl rfl rfl (ops_no rfl rfl rfl rfl (ops_val (yld_pick_f rfl rfl) rfl ?_))))))
           refine ops_nil (fin_inv rfl ?_)
           exact met ⟨rfl, rfl, rfl, rfl, rfl, rfl, rfl, rfl, rfl, rfl, rfl, rfl, rfl, rfl, (get_bool rfl (jaf qr28)), trivial⟩
          ·
           have qr28 := hr27
           refine ops_yes rfl rfl (ops_val (yld_move rfl) rfl (ops_yes rfl rfl (ops_val (yld_field Tryz.runUnderlying111 rfl rfl rfl Tryz.sizeOf4) rfl ?_)))
           refine ops_yes rfl rfl (ops_val (yld_load 0 Tryz.isAgg4 rfl rfl rfl) rfl ?_)
           refine ops_yes rfl rfl (ops_val (yld_field Tryz.runUnderlying31 rfl rfl rfl Tryz.sizeOf9) rfl ?_)
           refine ops_yes rfl rfl (ops_val (yld_load 1 Tryz.isAgg9 rfl rfl rfl) rfl ?_)
           refine ops_yes rfl rfl (ops_calldB (field_c ub (Pc.b p) atomS (isAtom_c _ (by omega))) rfl rfl pf_nil (fun _ _ _ => by exact trivial) rfl fun r29 hr29 => ?_)
           refine ops_val (yld_pick_t rfl rfl) rfl ?_
           refine ops_nil (fin_inv rfl ?_)
           exact met ⟨rfl, rfl, rfl, rfl, rfl, rfl, rfl, rfl, rfl, rfl, rfl, rfl, rfl, rfl, (get_bool rfl (jat qr28 hr29)), trivial⟩
         ·
          refine ops_val (yld_move rfl) rfl ?_
          refine ops_cut 7 ((((fldS ua (Pc.a p) atomS) && (fldS ub (Pc.b p) atomS))) && (fldS uc (Pc.c p) atomS)) (fun r => [(0, Pc.val p), (1, .pointer (some ⟨b1, 0, none⟩)), (2, .bool false), (23, .bool false), (24, .pointer (some ⟨b1, 0, none⟩)), (25, .int .i64 (Pc.kind p)), (26, .pointer (some (rad (some ⟨1, 0, none⟩) ((Pc.kind p).toNat * 7)))), (27, .agg #[.bool ua, .bool ub, .bool uc, .bool ur, .bool us, .bool ut, .bool true]), (3, .pointer (some ⟨b2, 0, none⟩)), (4, .func (.func 71) #[] #[]), (5, .func (.func 73) #[] #[]), (28, .pointer (some ⟨b2, 6, none⟩)), (29, .bool true), (44, .bool false), (74, .bool r)]) ?_ fun r30 hr30 => ?_
          ·
           cases r28
           ·
            have qr30 := hr28
            simp at hr28
            refine ops_no rfl rfl rfl rfl (ops_no rfl rfl rfl rfl (ops_no rfl rfl rfl rfl (ops_no rfl rfl rfl rfl (ops_no rfl rfl rfl rfl (ops_no rfl rfl rfl rfl (ops_val (yld_pick_f rfl rfl) rfl ?_))))))
            refine ops_nil (fin_inv rfl ?_)
            exact met ⟨rfl, rfl, rfl, rfl, rfl, rfl, rfl, rfl, rfl, rfl, rfl, rfl, rfl, rfl, (get_bool rfl (jaf qr30)), trivial⟩
           ·
            have qr30 := hr28
            simp at hr28
            refine ops_yes rfl rfl (ops_val (yld_move rfl) rfl (ops_yes rfl rfl (ops_val (yld_field Tryz.runUnderlying111 rfl rfl rfl Tryz.sizeOf4) rfl ?_)))
            refine ops_yes rfl rfl (ops_val (yld_load 0 Tryz.isAgg4 rfl rfl rfl) rfl ?_)
            refine ops_yes rfl rfl (ops_val (yld_field Tryz.runUnderlying31 rfl rfl rfl Tryz.sizeOf9) rfl ?_)
            refine ops_yes rfl rfl (ops_val (yld_load 1 Tryz.isAgg9 rfl rfl rfl) rfl ?_)
            refine ops_yes rfl rfl (ops_calldB (field_c uc (Pc.c p) atomS (isAtom_c _ (by omega))) rfl rfl pf_nil (fun _ _ _ => by exact trivial) rfl fun r31 hr31 => ?_)
            refine ops_val (yld_pick_t rfl rfl) rfl ?_
            refine ops_nil (fin_inv rfl ?_)
            exact met ⟨rfl, rfl, rfl, rfl, rfl, rfl, rfl, rfl, rfl, rfl, rfl, rfl, rfl, rfl, (get_bool rfl (jat qr30 hr31)), trivial⟩
          ·
           refine ops_val (yld_move rfl) rfl ?_
           refine ops_cut 8 ((((((fldS ua (Pc.a p) atomS) && (fldS ub (Pc.b p) atomS))) && (fldS uc (Pc.c p) atomS))) && (fldS ur (Pc.r p) personS)) (fun r => [(0, Pc.val p), (1, .pointer (some ⟨b1, 0, none⟩)), (2, .bool false), (23, .bool false), (24, .pointer (some ⟨b1, 0, none⟩)), (25, .int .i64 (Pc.kind p)), (26, .pointer (some (rad (some ⟨1, 0, none⟩) ((Pc.kind p).toNat * 7)))), (27, .agg #[.bool ua, .bool ub, .bool uc, .bool ur, .bool us, .bool ut, .bool true]), (3, .pointer (some ⟨b2, 0, none⟩)), (4, .func (.func 71) #[] #[]), (28, .pointer (some ⟨b2, 6, none⟩)), (29, .bool true), (44, .bool false), (83, .bool r)]) ?_ fun r32 hr32 => ?_
           ·
            cases r30
            ·
             have qr32 := hr30
             simp at hr30
             refine ops_no rfl rfl rfl rfl (ops_no rfl rfl rfl rfl (ops_no rfl rfl rfl rfl (ops_no rfl rfl rfl rfl (ops_no rfl rfl rfl rfl (ops_no rfl rfl rfl rfl (ops_no rfl rfl rfl rfl (ops_val (yld_pick_f rfl rfl) rfl ?_)))))))
             refine ops_nil (fin_inv rfl ?_)
             exact met ⟨rfl, rfl, rfl, rfl, rfl, rfl, rfl, rfl, rfl, rfl, rfl, rfl, rfl, (get_bool rfl (jaf qr32)), trivial⟩
            ·
             have qr32 := hr30
             simp at hr30
             refine ops_yes rfl rfl (ops_val (yld_move rfl) rfl (ops_yes rfl rfl (ops_val (yld_field Tryz.runUnderlying111 rfl rfl rfl Tryz.sizeOf4) rfl ?_)))
             refine ops_yes rfl rfl (ops_val (yld_load 0 Tryz.isAgg4 rfl rfl rfl) rfl ?_)
             refine ops_yes rfl rfl (ops_val (yld_field Tryz.runUnderlying31 rfl rfl rfl Tryz.sizeOf9) rfl ?_)
             refine ops_yes rfl rfl (ops_val (yld_load 1 Tryz.isAgg9 rfl rfl rfl) rfl ?_)
             refine ops_yes rfl rfl (ops_val (yld_move rfl) rfl (ops_yes rfl rfl (ops_calldB (field_c ur (Pc.r p) personS (isName_c _ (by omega))) rfl rfl pf_nil (fun _ _ _ => by exact trivial) rfl fun r33 hr33 => ?_)))
             refine ops_val (yld_pick_t rfl rfl) rfl ?_
             refine ops_nil (fin_inv rfl ?_)
             exact met ⟨rfl, rfl, rfl, rfl, rfl, rfl, rfl, rfl, rfl, rfl, rfl, rfl, rfl, (get_bool rfl (jat qr32 hr33)), trivial⟩
           ·
            refine ops_val (yld_move rfl) rfl ?_
            refine ops_cut 7 ((((((((fldS ua (Pc.a p) atomS) && (fldS ub (Pc.b p) atomS))) && (fldS uc (Pc.c p) atomS))) && (fldS ur (Pc.r p) personS))) && (fldS us (Pc.s p) roleS)) (fun r => [(0, Pc.val p), (1, .pointer (some ⟨b1, 0, none⟩)), (2, .bool false), (23, .bool false), (24, .pointer (some ⟨b1, 0, none⟩)), (25, .int .i64 (Pc.kind p)), (26, .pointer (some (rad (some ⟨1, 0, none⟩) ((Pc.kind p).toNat * 7)))), (27, .agg #[.bool ua, .bool ub, .bool uc, .bool ur, .bool us, .bool ut, .bool true]), (3, .pointer (some ⟨b2, 0, none⟩)), (4, .func (.func 71) #[] #[]), (28, .pointer (some ⟨b2, 6, none⟩)), (29, .bool true), (44, .bool false), (91, .bool r)]) ?_ fun r34 hr34 => ?_
            ·
             cases r32
             ·
              have qr34 := hr32
              simp at hr32
              refine ops_no rfl rfl rfl rfl (ops_no rfl rfl rfl rfl (ops_no rfl rfl rfl rfl (ops_no rfl rfl rfl rfl (ops_no rfl rfl rfl rfl (ops_no rfl rfl rfl rfl (ops_val (yld_pick_f rfl rfl) rfl ?_))))))
              refine ops_nil (fin_inv rfl ?_)
              exact met ⟨rfl, rfl, rfl, rfl, rfl, rfl, rfl, rfl, rfl, rfl, rfl, rfl, rfl, (get_bool rfl (jaf qr34)), trivial⟩
             ·
              have qr34 := hr32
              simp at hr32
              refine ops_yes rfl rfl (ops_val (yld_move rfl) rfl (ops_yes rfl rfl (ops_val (yld_field Tryz.runUnderlying111 rfl rfl rfl Tryz.sizeOf4) rfl ?_)))
              refine ops_yes rfl rfl (ops_val (yld_load 0 Tryz.isAgg4 rfl rfl rfl) rfl ?_)
              refine ops_yes rfl rfl (ops_val (yld_field Tryz.runUnderlying31 rfl rfl rfl Tryz.sizeOf9) rfl ?_)
              refine ops_yes rfl rfl (ops_val (yld_load 1 Tryz.isAgg9 rfl rfl rfl) rfl ?_)
              refine ops_yes rfl rfl (ops_calldB (field_c us (Pc.s p) roleS (isRole_c _ (by omega))) rfl rfl pf_nil (fun _ _ _ => by exact trivial) rfl fun r35 hr35 => ?_)
              refine ops_val (yld_pick_t rfl rfl) rfl ?_
              refine ops_nil (fin_inv rfl ?_)
              exact met ⟨rfl, rfl, rfl, rfl, rfl, rfl, rfl, rfl, rfl, rfl, rfl, rfl, rfl, (get_bool rfl (jat qr34 hr35)), trivial⟩
            ·
             refine ops_val (yld_move rfl) rfl ?_
             refine ops_cut 7 ((((((((((fldS ua (Pc.a p) atomS) && (fldS ub (Pc.b p) atomS))) && (fldS uc (Pc.c p) atomS))) && (fldS ur (Pc.r p) personS))) && (fldS us (Pc.s p) roleS))) && (fldS ut (Pc.t p) roleS)) (fun r => [(0, Pc.val p), (1, .pointer (some ⟨b1, 0, none⟩)), (2, .bool false), (23, .bool false), (24, .pointer (some ⟨b1, 0, none⟩)), (25, .int .i64 (Pc.kind p)), (26, .pointer (some (rad (some ⟨1, 0, none⟩) ((Pc.kind p).toNat * 7)))), (27, .agg #[.bool ua, .bool ub, .bool uc, .bool ur, .bool us, .bool ut, .bool true]), (3, .pointer (some ⟨b2, 0, none⟩)), (28, .pointer (some ⟨b2, 6, none⟩)), (29, .bool true), (44, .bool false), (99, .bool r)]) ?_ fun r36 hr36 => ?_
             ·
              cases r34
              ·
               have qr36 := hr34
               simp at hr34
               refine ops_no rfl rfl rfl rfl (ops_no rfl rfl rfl rfl (ops_no rfl rfl rfl rfl (ops_no rfl rfl rfl rfl (ops_no rfl rfl rfl rfl (ops_no rfl rfl rfl rfl (ops_val (yld_pick_f rfl rfl) rfl ?_))))))
               refine ops_nil (fin_inv rfl ?_)
               exact met ⟨rfl, rfl, rfl, rfl, rfl, rfl, rfl, rfl, rfl, rfl, rfl, rfl, (get_bool rfl (jaf qr36)), trivial⟩
              ·
               have qr36 := hr34
               simp at hr34
               refine ops_yes rfl rfl (ops_val (yld_move rfl) rfl (ops_yes rfl rfl (ops_val (yld_field Tryz.runUnderlying111 rfl rfl rfl Tryz.sizeOf4) rfl ?_)))
               refine ops_yes rfl rfl (ops_val (yld_load 0 Tryz.isAgg4 rfl rfl rfl) rfl ?_)
               refine ops_yes rfl rfl (ops_val (yld_field Tryz.runUnderlying31 rfl rfl rfl Tryz.sizeOf9) rfl ?_)
               refine ops_yes rfl rfl (ops_val (yld_load 1 Tryz.isAgg9 rfl rfl rfl) rfl ?_)
               refine ops_yes rfl rfl (ops_calldB (field_c ut (Pc.t p) roleS (isRole_c _ (by omega))) rfl rfl pf_nil (fun _ _ _ => by exact trivial) rfl fun r37 hr37 => ?_)
               refine ops_val (yld_pick_t rfl rfl) rfl ?_
               refine ops_nil (fin_inv rfl ?_)
               exact met ⟨rfl, rfl, rfl, rfl, rfl, rfl, rfl, rfl, rfl, rfl, rfl, rfl, (get_bool rfl (jat qr36 hr37)), trivial⟩
             ·
              refine ops_val (yld_assign rfl) rfl (ops_nil (fin_next rfl (run_ret ?_)))
              exact ret1 Tryz.results41 () (get_bool rfl (by unfold Pc.valid; rw [if_neg (by omega)]; simp only [hus]; rw [if_neg (by simp <;> omega), if_neg (by simp <;> omega)]; exact hr36.symm)) (.refl _) (fun _ _ _ => trivial)
        ·
         simp at hr25
         refine run_cond_t rfl (run_seq (run_region (ops_val (yld_assign rfl) rfl (ops_nil (fin_next rfl (run_ret ?_))))))
         exact ret1 Tryz.results41 () (get_bool rfl (by unfold Pc.valid; rw [if_neg (by omega)]; simp only [hus]; first | (rw [if_pos (by first | (simp; omega) | omega)]) | (rw [if_neg (by simp), if_pos (by simp; omega)]))) (.refl _) (fun _ _ _ => trivial)
    ·
     simp at hr6
     refine run_cond_t rfl (run_seq (run_region (ops_val (yld_assign rfl) rfl (ops_nil (fin_next rfl (run_ret ?_))))))
     exact ret1 Tryz.results41 () (get_bool rfl (by unfold Pc.valid; rw [if_pos (by omega)])) (.refl _) (fun _ _ _ => trivial)

theorem check_c (l : List Pc) (ad : Option Addr) (cap : Nat) (hl : l.length ≤ 17592186044414) (hsm : ∀ p ∈ l, p.sm) : Tri Tryz.prog 13 #[.slice ad (List.length l) cap] [] [rowF ad (List.flatMap Pc.cells l), tabN] (fun _ : Unit => .int .i64 (checkP l)) (fun _ => []) (fun _ => []) := by
 refine tri_of_body Tryz.func13 rfl rfl Tryz.ntmps13 rfl fun v0 => ?_
 refine run_seq (run_region (ops_val (yld_assign rfl) rfl (ops_nil (fin_next rfl (run_seq (run_seq (run_region ?_)))))))
 refine ops_val (yld_move rfl) rfl (ops_val (yld_lenS Tryz.runUnderlying25 rfl) rfl ?_)
 refine ops_valB (yld_gtr rfl rfl) rfl fun r1 hr1 => ?_
 refine ops_nil (fin_next rfl ?_)
 cases r1
 ·
  replace hr1 := of_decide_eq_false hr1
  refine run_cond_f rfl (run_skip (fin_next rfl (run_seq (run_seq (run_region (ops_val (yld_move rfl) rfl (ops_val (yld_lenS Tryz.runUnderlying25 rfl) rfl ?_)))))))
  refine ops_val (yld_move rfl) rfl (ops_nil (fin_next rfl (run_block (ok_fr [(8, .slice ad (List.length l) cap), (9, .int .i64 (List.length l : Int)), (10, .int .i64 ((0 : Nat) : Int))] ⟨rfl, rfl, rfl, trivial⟩ ?_))))
  refine run_loop (ι := {q : Nat // q ≤ l.length ∧ (l.take q).all Pc.valid = true}) (fun i => [(8, .slice ad (List.length l) cap), (9, .int .i64 (List.length l : Int)), (10, .int .i64 (i.1 : Int))]) (fun _ => _) (fun _ => _) (fun i => l.length - i.1) ⟨0, by simp⟩ ?_
  rintro ⟨i, hk⟩
  refine ok_fr [(8, .slice ad (List.length l) cap), (9, .int .i64 (List.length l : Int)), (10, .int .i64 (i : Int))] ⟨rfl, rfl, rfl, trivial⟩ ?_
  refine run_seq (run_region (ops_valB (yld_lss rfl rfl) rfl fun r2 hr2 => ?_))
  refine ops_nil (fin_next rfl (run_seq ?_))
  cases r2
  ·
   replace hr2 := of_decide_eq_false hr2
   refine run_cond_f rfl (run_exit rfl (fin_next rfl (run_seq (run_region (ops_val (yld_assign rfl) rfl (ops_nil (fin_next rfl ?_)))))))
   refine run_ret ?_
   exact ret1 Tryz.results13 () (get_int rfl (by unfold checkP; rw [if_neg (by omega), if_pos (by have := hk.2; rwa [List.take_of_length_le (by omega)] at this)])) (.refl _) (fun _ _ _ => trivial)
  ·
   replace hr2 := of_decide_eq_true hr2
   have hlx1 : i < List.length l := by omega
   obtain ⟨x1, hx1⟩ : ∃ e0, l[i]? = some e0 := ⟨_, List.getElem?_eq_getElem hlx1⟩
   have hmx1 : x1 ∈ l := List.mem_of_getElem? hx1
   refine run_cond_t rfl (run_skip (fin_next rfl (run_seq (run_block (run_seq (run_region (ops_val (yld_indexR Tryz.runUnderlying25 Tryz.sizeOf31 rfl rfl (fun v _ h => row_adr (n := 10) Pc.cells_len (by decide) (by exact h.1) hx1) (by omega) (by first | omega | (simp; done))) rfl ?_)))))))
   refine ops_val (yld_loadRS (ad := ad) (us := Pc.cells x1) Tryz.isAgg31 Tryz.sizeOf31 rfl (fun v _ h => by exact h.1) (Pc.cells_len _) (row_cells Pc.cells_len hx1)) rfl ?_
   refine ops_alloc Tryz.zeroValue31 rfl fun b1 => ?_
   refine ops_store 0 Tryz.sizeOf31 rfl rfl rfl rfl rfl rfl ?_
   refine ops_nil (fin_next rfl (run_seq (run_region (ops_val (yld_loadS 0 Tryz.isAgg31 Tryz.sizeOf31 rfl rfl rfl) rfl ?_))))
   refine ops_callB (isValid_c x1 (hsm x1 hmx1)) rfl pf_nil (fun v _ h => by exact ⟨h.2.1, trivial⟩) rfl fun r3 hr3 => ?_
   refine ops_val (yld_not rfl) rfl ?_
   refine ops_nil (fin_next rfl ?_)
   cases r3
   ·
    refine run_cond_t rfl (run_seq (run_region (ops_val (yld_assign rfl) rfl (ops_nil (fin_next rfl (run_ret ?_))))))
    exact ret1 Tryz.results13 () (get_int rfl (by unfold checkP; rw [if_neg (by omega), if_neg (by rw [show l.all Pc.valid = false from List.all_eq_false.2 ⟨x1, hmx1, by simp [*]⟩]; simp)])) (.refl _) (fun _ _ _ => trivial)
   ·
    refine run_cond_f rfl (run_skip (fin_next rfl (run_region (ops_val (yld_arith rfl rfl rfl (wrap64 (by omega) (by omega))) rfl ?_))))
    refine ops_val (yld_move rfl) rfl (ops_nil (fin_inv rfl ?_))
    exact ok_again ⟨i + 1, hlx1, by rw [List.take_add_one, hx1]; simp only [Option.toList_some, List.all_append, hk.2]; simp [*]⟩ (by simp; omega) ⟨rfl, rfl, rfl, trivial⟩ (@List.perm_append_comm _ [_] _) (fun _ _ h => h)
 ·
  replace hr1 := of_decide_eq_true hr1
  refine run_cond_t rfl (run_seq (run_region (ops_val (yld_assign rfl) rfl (ops_nil (fin_next rfl (run_ret ?_))))))
  exact ret1 Tryz.results13 () (get_int rfl (by unfold checkP; rw [if_pos (by omega)])) (.refl _) (fun _ _ _ => trivial)

theorem same_c (l m : List Pc) (ad ae : Option Addr) (cap cpe : Nat) (hl : l.length ≤ 17592186044414) (hm : m.length ≤ 17592186044414) : Tri Tryz.prog 15 #[.slice ad (List.length l) cap, .slice ae (List.length m) cpe] [] [rowF ad (List.flatMap Pc.cells l), rowF ae (List.flatMap Pc.cells m)] (fun _ : Unit => .bool (decide (l = m))) (fun _ => []) (fun _ => []) := by
 refine tri_of_body Tryz.func15 rfl rfl Tryz.ntmps15 rfl fun v0 => ?_
 refine run_seq (run_region (ops_val (yld_assign rfl) rfl (ops_nil (fin_next rfl (run_seq (run_seq (run_region ?_)))))))
 refine ops_val (yld_move rfl) rfl (ops_val (yld_lenS Tryz.runUnderlying25 rfl) rfl ?_)
 refine ops_val (yld_move rfl) rfl (ops_val (yld_lenS Tryz.runUnderlying25 rfl) rfl ?_)
 refine ops_valB (yld_neq rfl rfl) rfl fun r1 hr1 => ?_
 refine ops_nil (fin_next rfl ?_)
 cases r1
 ·
  replace hr1 := eq_of_bne hr1
  refine run_cond_f rfl (run_skip (fin_next rfl (run_seq (run_seq (run_region (ops_val (yld_assign rfl) rfl (ops_nil ?_)))))))
  refine fin_next rfl (run_block (ok_fr [(0, .slice ad (List.length l) cap), (1, .slice ae (List.length m) cpe), (5, .int .i64 ((0 : Nat) : Int))] ⟨rfl, rfl, rfl, trivial⟩ ?_))
  refine run_loop (ι := {q : Nat // q ≤ l.length ∧ l.take q = m.take q}) (fun i => [(0, .slice ad (List.length l) cap), (1, .slice ae (List.length m) cpe), (5, .int .i64 (i.1 : Int))]) (fun _ => _) (fun _ => _) (fun i => l.length - i.1) ⟨0, by simp⟩ ?_
  rintro ⟨i, hk⟩
  refine ok_fr [(0, .slice ad (List.length l) cap), (1, .slice ae (List.length m) cpe), (5, .int .i64 (i : Int))] ⟨rfl, rfl, rfl, trivial⟩ ?_
  refine run_seq (run_seq (run_region (ops_val (yld_move rfl) rfl (ops_val (yld_move rfl) rfl (ops_val (yld_lenS Tryz.runUnderlying25 rfl) rfl ?_)))))
  refine ops_valB (yld_lss rfl rfl) rfl fun r2 hr2 => ?_
  refine ops_nil (fin_next rfl ?_)
  cases r2
  ·
   replace hr2 := of_decide_eq_false hr2
   refine run_cond_f rfl (run_exit rfl (fin_next rfl (run_seq (run_region (ops_val (yld_assign rfl) rfl (ops_nil (fin_next rfl ?_)))))))
   refine run_ret ?_
   exact ret1 Tryz.results15 () (get_bool rfl (by symm; apply decide_eq_true; have h2 := hk.2; rwa [List.take_of_length_le (by omega), List.take_of_length_le (by omega)] at h2)) (.refl _) (fun _ _ _ => trivial)
  ·
   replace hr2 := of_decide_eq_true hr2
   have hlx1 : i < List.length l := by omega
   obtain ⟨x1, hx1⟩ : ∃ e0, l[i]? = some e0 := ⟨_, List.getElem?_eq_getElem hlx1⟩
   have hmx1 : x1 ∈ l := List.mem_of_getElem? hx1
   have hlx2 : i < List.length m := by omega
   obtain ⟨x2, hx2⟩ : ∃ e0, m[i]? = some e0 := ⟨_, List.getElem?_eq_getElem hlx2⟩
   have hmx2 : x2 ∈ m := List.mem_of_getElem? hx2
   refine run_cond_t rfl (run_skip (fin_next rfl (run_seq (run_block (run_seq ?_)))))
   refine run_draw' (by kernel_rfl) ?_
   refine any_sq 0 [0, 1, 2, 3, 4, 5, 6, 7, 8] (by kernel_rfl) (fun _ a b => ⟨satNil a, b⟩) ?_
   refine sq_val rfl (yld_move rfl) rfl ?_
   refine sq_val rfl (yld_move rfl) rfl ?_
   refine sq_val rfl (yld_indexR Tryz.runUnderlying25 Tryz.sizeOf31 rfl rfl (fun v _ h => row_adr (n := 10) Pc.cells_len (by decide) (by exact h.1) hx1) (by omega) (by first | omega | (simp; done))) rfl ?_
   refine sq_val rfl (yld_loadRS (ad := ad) (us := Pc.cells x1) Tryz.isAgg31 Tryz.sizeOf31 rfl (fun v _ h => by exact h.1) (Pc.cells_len _) (row_cells Pc.cells_len hx1)) rfl ?_
   refine sq_val rfl (yld_move rfl) rfl ?_
   refine sq_val rfl (yld_move rfl) rfl ?_
   refine sq_val rfl (yld_indexR Tryz.runUnderlying25 Tryz.sizeOf31 rfl rfl (fun v _ h => row_adr (n := 10) Pc.cells_len (by decide) (by exact h.2.1) hx2) (by omega) (by first | omega | (simp; done))) rfl ?_
   refine sq_val rfl (yld_loadRS (ad := ae) (us := Pc.cells x2) Tryz.isAgg31 Tryz.sizeOf31 rfl (fun v _ h => by exact h.2.1) (Pc.cells_len _) (row_cells Pc.cells_len hx2)) rfl ?_
   refine sq_valB rfl (yld_neqPc (p := x1) (q := x2) rfl rfl) rfl fun r3 hr3 => ?_
   refine sq_nil ?_
   refine any_done (by kernel_rfl) ?_
   refine fin_next rfl ?_
   cases r3
   ·
    replace hr3 := of_decide_eq_false hr3
    have hxe : x1 = x2 := by simpa using hr3
    refine run_cond_f rfl (run_skip (fin_next rfl (run_region (ops_val (yld_move rfl) rfl (ops_val (yld_arith rfl rfl rfl (wrap64 (by omega) (by omega))) rfl ?_)))))
    refine ops_val (yld_assign rfl) rfl (ops_nil (fin_inv rfl ?_))
    exact ok_again ⟨i + 1, hlx1, by rw [List.take_add_one, hx1, List.take_add_one, hx2, hk.2, hxe]⟩ (by simp; omega) ⟨rfl, rfl, rfl, trivial⟩ (.refl _) (fun _ _ h => h)
   ·
    replace hr3 := of_decide_eq_true hr3
    refine run_cond_t rfl (run_seq (run_region (ops_val (yld_assign rfl) rfl (ops_nil (fin_next rfl (run_ret ?_))))))
    exact ret1 Tryz.results15 () (get_bool rfl (by symm; apply decide_eq_false; intro e; subst e; rw [hx1] at hx2; simp_all)) (.refl _) (fun _ _ _ => trivial)
 ·
  replace hr1 := ne_of_bne hr1
  refine run_cond_t rfl (run_seq (run_region (ops_val (yld_assign rfl) rfl (ops_nil (fin_next rfl (run_ret ?_))))))
  exact ret1 Tryz.results15 () (get_bool rfl (by symm; apply decide_eq_false; intro e; subst e; omega)) (.refl _) (fun _ _ _ => trivial)

end Go.Proofs.YtoafjmalfclpoaaGreatDoor

/-
  My own contracts.
-/
namespace Go.Proofs.YtoafjmalfclpoaaGreatDoor
open Go Go.Sx Go.Proofs
set_option linter.unusedVariables false
attribute [local irreducible] Code.wp wpList wpAnyH

open Go.Vs
theorem count_c : ∀ (m : Nat) (c : Con), c.sz ≤ m → c.ok → ∀ (d most : Int), 0 ≤ d ∧ d ≤ 40 → 0 ≤ most ∧ most ≤ 1000 → Tri Tryz.prog 58 #[Con.val c, .int .i64 d, .int .i64 most] [] [Con.memF c] (fun r : {r : Int // 1 ≤ r ∧ r ≤ most + 4398046511104} => .int .i64 r.1) (fun _ => []) (fun _ => []) := by
 intro m
 induction m with
 | zero => intro c h; have := c.sz_pos; omega
 | succ m ih =>
  intro c hm hok d most hd hmost
  have hnl := Con.ok_name hok
  have hpl := Con.ok_len hok
  refine tri_of_body Tryz.func58 rfl rfl Tryz.ntmps58 rfl fun v0 => ?_
  refine run_seq (run_region (ops_box rfl rfl fun b1 => ?_))
  refine ops_val (yld_assign rfl) rfl (ops_nil (fin_next rfl (run_seq (run_seq (run_region (ops_val (yld_move rfl) rfl (ops_valB (yld_leq rfl rfl) rfl fun r1 hr1 => ?_)))))))
  refine ops_nil (fin_next rfl ?_)
  cases r1
  ·
   replace hr1 := of_decide_eq_false hr1
   refine run_cond_f rfl (run_skip (fin_next rfl (run_seq (run_region (ops_val (yld_field Tryz.runUnderlying38 rfl rfl rfl Tryz.sizeOf9) rfl ?_)))))
   refine ops_val (yld_load 0 Tryz.isAgg9 rfl rfl rfl) rfl ?_
   refine ops_val (yld_lenT Tryz.runUnderlying9 rfl) rfl ?_
   refine ops_val (yld_eq (yld_quo (n := 40) rfl rfl (by decide) (wrap64 (r := ((List.length (Con.name c) / 40 : Nat) : Int)) (by omega) (by omega))) (show _ = Value.int .i64 ((List.length (Con.name c) / 40 : Nat) : Int) from rfl)) rfl ?_
   refine ops_val (yld_arith rfl rfl rfl (wrap64 (by omega) (by omega))) rfl ?_
   refine ops_val (yld_assign rfl) rfl (ops_nil (fin_next rfl (run_seq (run_seq (run_region (ops_val (yld_assign rfl) rfl (ops_nil ?_)))))))
   refine fin_next rfl (run_block (ok_fr [(1, .int .i64 d), (2, .int .i64 most), (3, .pointer (some ⟨b1, 0, none⟩)), (7, .int .i64 (1 + ((List.length (Con.name c) / 40 : Nat) : Int))), (8, .int .i64 ((0 : Nat) : Int))] ⟨rfl, rfl, rfl, rfl, rfl, trivial⟩ ?_))
   refine run_loop (ι := {x : Nat × Int // x.1 ≤ c.parts.length ∧ 1 ≤ x.2 ∧ x.2 ≤ most + 4398046511104}) (fun x => [(1, .int .i64 d), (2, .int .i64 most), (3, .pointer (some ⟨b1, 0, none⟩)), (7, .int .i64 x.1.2), (8, .int .i64 (x.1.1 : Int))]) (fun _ => _) (fun _ => _) (fun x => c.parts.length - x.1.1) ⟨(0, 1 + ((List.length (Con.name c) / 40 : Nat) : Int)), by simp, by dsimp only; omega, by dsimp only; omega⟩ ?_
   rintro ⟨⟨i, n⟩, hk⟩
   dsimp only at hk
   refine ok_fr [(1, .int .i64 d), (2, .int .i64 most), (3, .pointer (some ⟨b1, 0, none⟩)), (7, .int .i64 n), (8, .int .i64 (i : Int))] ⟨rfl, rfl, rfl, rfl, rfl, trivial⟩ ?_
   refine run_seq (run_seq (run_region (ops_val (yld_move rfl) rfl (ops_val (yld_field Tryz.runUnderlying38 rfl rfl rfl Tryz.sizeOf36) rfl ?_))))
   refine ops_val (yld_load 0 Tryz.isAgg36 rfl rfl rfl) rfl ?_
   refine ops_val (yld_lenS Tryz.runUnderlying36 rfl) rfl ?_
   refine ops_valB (yld_lss rfl rfl) rfl fun r2 hr2 => ?_
   refine ops_val (yld_move rfl) rfl ?_
   refine ops_cut 4 ((decide ((i : Int) < (List.length (Con.parts c) : Int))) && (decide (n ≤ most))) (fun r => [(1, .int .i64 d), (2, .int .i64 most), (3, .pointer (some ⟨b1, 0, none⟩)), (7, .int .i64 n), (8, .int .i64 (i : Int)), (27, .bool r)]) ?_ fun r3 hr3 => ?_
   ·
    cases r2
    ·
     have qr3 := hr2
     replace hr2 := of_decide_eq_false hr2
     refine ops_no rfl rfl rfl rfl (ops_no rfl rfl rfl rfl (ops_no rfl rfl rfl rfl (ops_val (yld_pick_f rfl rfl) rfl ?_)))
     refine ops_nil (fin_inv rfl ?_)
     exact met ⟨rfl, rfl, rfl, rfl, rfl, (get_bool rfl (jaf qr3)), trivial⟩
    ·
     have qr3 := hr2
     replace hr2 := of_decide_eq_true hr2
     refine ops_yes rfl rfl (ops_val (yld_move rfl) rfl (ops_yes rfl rfl (ops_val (yld_move rfl) rfl (ops_yes rfl rfl (ops_valB (yld_leq rfl rfl) rfl fun r4 hr4 => ?_)))))
     refine ops_val (yld_pick_t rfl rfl) rfl ?_
     refine ops_nil (fin_inv rfl ?_)
     exact met ⟨rfl, rfl, rfl, rfl, rfl, (get_bool rfl (jat qr3 hr4)), trivial⟩
   ·
    refine ops_nil (fin_next rfl ?_)
    cases r3
    ·
     simp at hr3
     refine run_cond_f rfl (run_exit rfl (fin_next rfl (run_seq (run_region (ops_val (yld_move rfl) rfl (ops_val (yld_assign rfl) rfl (ops_nil ?_)))))))
     refine fin_next rfl (run_ret ?_)
     exact ret1 Tryz.results58 ⟨n, by omega, by omega⟩ rfl (@List.perm_append_comm _ [_] _) (fun _ _ _ => trivial)
    ·
     simp at hr3
     skip
     have hlx1 : i < List.length (Con.parts c) := by omega
     obtain ⟨x1, hx1⟩ : ∃ e0, (Con.parts c)[i]? = some e0 := ⟨_, List.getElem?_eq_getElem hlx1⟩
     have hmx1 : x1 ∈ (Con.parts c) := List.mem_of_getElem? hx1
     refine run_cond_t rfl (run_skip (fin_next rfl (run_seq (run_block (run_region (ops_val (yld_move rfl) rfl (ops_val (yld_field Tryz.runUnderlying38 rfl rfl rfl Tryz.sizeOf36) rfl ?_)))))))
     refine ops_val (yld_load 0 Tryz.isAgg36 rfl rfl rfl) rfl ?_
     refine ops_val (yld_move rfl) rfl (ops_val (yld_indexR Tryz.runUnderlying36 Tryz.sizeOf38 rfl rfl (fun v _ h => row_adr (n := 5) Con.cells_len (by decide) (by exact ((Con.mem_iff c v).1 h.1).1) hx1) (by omega) (by first | omega | (simp; done))) rfl ?_)
     refine ops_val (yld_loadRS (ad := (Con.ad c)) (us := Con.cells x1) Tryz.isAgg38 Tryz.sizeOf38 rfl (fun v _ h => by exact ((Con.mem_iff c v).1 h.1).1) (Con.cells_len _) (row_cells Con.cells_len hx1)) rfl ?_
     refine ops_val (yld_move rfl) rfl (ops_val (yld_arith rfl rfl rfl (wrap64 (by omega) (by omega))) rfl ?_)
     refine ops_val (yld_move rfl) rfl (ops_val (yld_move rfl) rfl (ops_val (yld_arith rfl rfl rfl (wrap64 (by omega) (by omega))) rfl ?_))
     refine ops_call (ih x1 (by have := Con.sz_part hmx1; omega) (Con.ok_part hok hmx1) (d - 1) (most - n) ⟨by omega, by omega⟩ ⟨by omega, by omega⟩) rfl pf_nil (fun v _ h => by exact ⟨(Con.mem_part (c := c) h.1 hmx1), trivial⟩) rfl fun ⟨r, hr1, hr2⟩ => ?_
     dsimp only
     refine ops_val (yld_arith rfl rfl rfl (wrap64 (by omega) (by omega))) rfl ?_
     refine ops_val (yld_assign rfl) rfl (ops_nil (fin_next rfl (run_region (ops_val (yld_move rfl) rfl (ops_val (yld_arith rfl rfl rfl (wrap64 (by omega) (by omega))) rfl ?_)))))
     refine ops_val (yld_assign rfl) rfl (ops_nil (fin_inv rfl ?_))
     exact ok_again ⟨(i + 1, n + r), hlx1, by dsimp only; omega, by dsimp only; omega⟩ (by dsimp only; omega) ⟨rfl, rfl, rfl, rfl, rfl, trivial⟩ (.refl _) (fun _ _ h => h)
  ·
   replace hr1 := of_decide_eq_true hr1
   refine run_cond_t rfl (run_seq (run_region (ops_val (yld_move rfl) rfl (ops_val (yld_arith rfl rfl rfl (wrap64 (by omega) (by omega))) rfl ?_))))
   refine ops_val (yld_assign rfl) rfl (ops_nil (fin_next rfl (run_ret ?_)))
   exact ret1 Tryz.results58 ⟨(most + 1), by omega, by omega⟩ rfl (@List.perm_append_comm _ [_] _) (fun _ _ _ => trivial)

theorem few_c (c : Con) (hok : c.ok) : Tri Tryz.prog 22 #[Con.val c] [] [Con.memF c] (fun b : Bool => .bool b) (fun _ => []) (fun _ => []) := by
  refine tri_of_body Tryz.func22 rfl rfl Tryz.ntmps22 rfl fun v0 => ?_
  refine run_seq (run_region (ops_box rfl rfl fun b1 => ?_))
  refine ops_val (yld_assign rfl) rfl (ops_nil (fin_next rfl (run_seq (run_region (ops_val (yld_loadS 0 Tryz.isAgg38 Tryz.sizeOf38 rfl rfl rfl) rfl ?_)))))
  refine ops_call (count_c _ c (Nat.le_refl _) hok 40 150 ⟨by decide, by decide⟩ ⟨by decide, by decide⟩) rfl pf_nil (fun v _ h => by exact ⟨h.1, trivial⟩) rfl fun ⟨r, hr1, hr2⟩ => ?_
  dsimp only
  refine ops_valB (yld_leq rfl rfl) rfl fun r1 hr1 => ?_
  refine ops_val (yld_assign rfl) rfl (ops_nil (fin_next rfl (run_ret ?_)))
  exact ret1 Tryz.results22 r1 rfl (@List.perm_append_comm _ [_] _) (fun _ _ _ => trivial)

theorem fewAxiom_c (x : Ax) (hok : x.ok) : Tri Tryz.prog 18 #[Ax.val x] [] [Ax.memF x] (fun b : Bool => .bool b) (fun _ => []) (fun _ => []) := by
 refine tri_of_body Tryz.func18 rfl rfl Tryz.ntmps18 rfl fun v0 => ?_
 have h1 := hok.role
 have h2 := hok.a
 have h3 := hok.b
 have h4 := hok.len
 have h5 := hok.cap
 refine run_seq (run_region (ops_box rfl rfl fun b1 => ?_))
 refine ops_val (yld_assign rfl) rfl (ops_nil (fin_next rfl (run_seq (run_region (ops_val (yld_field Tryz.runUnderlying41 rfl rfl rfl Tryz.sizeOf9) rfl ?_)))))
 refine ops_val (yld_load 0 Tryz.isAgg9 rfl rfl rfl) rfl ?_
 refine ops_val (yld_lenT Tryz.runUnderlying9 rfl) rfl ?_
 refine ops_val (yld_field Tryz.runUnderlying41 rfl rfl rfl Tryz.sizeOf9) rfl ?_
 refine ops_val (yld_load 0 Tryz.isAgg9 rfl rfl rfl) rfl ?_
 refine ops_val (yld_lenT Tryz.runUnderlying9 rfl) rfl ?_
 refine ops_val (yld_arith rfl rfl rfl (wrap64 (by omega) (by omega))) rfl ?_
 refine ops_val (yld_field Tryz.runUnderlying41 rfl rfl rfl Tryz.sizeOf9) rfl ?_
 refine ops_val (yld_load 0 Tryz.isAgg9 rfl rfl rfl) rfl ?_
 refine ops_val (yld_lenT Tryz.runUnderlying9 rfl) rfl ?_
 refine ops_val (yld_arith rfl rfl rfl (wrap64 (by omega) (by omega))) rfl ?_
 refine ops_val (yld_field Tryz.runUnderlying41 rfl rfl rfl Tryz.sizeOf39) rfl ?_
 refine ops_val (yld_load 0 Tryz.isAgg39 rfl rfl rfl) rfl ?_
 refine ops_val (yld_lenS Tryz.runUnderlying39 rfl) rfl ?_
 refine ops_val (yld_arith rfl rfl rfl (wrap64 (by omega) (by omega))) rfl ?_
 refine ops_val (yld_arith rfl rfl rfl (wrap64 (by omega) (by omega))) rfl ?_
 refine ops_val (yld_assign rfl) rfl (ops_nil (fin_next rfl (run_seq (run_seq (run_region (ops_val (yld_assign rfl) rfl (ops_nil ?_)))))))
 refine fin_next rfl (run_block (ok_fr [(1, .pointer (some ⟨b1, 0, none⟩)), (3, .int .i64 (((((Ax.role x).length : Int) + ((Ax.a x).length : Int)) + ((Ax.b x).length : Int)) + (10 * (List.length (Ax.roles x) : Int)))), (4, .int .i64 ((0 : Nat) : Int))] ⟨rfl, rfl, rfl, trivial⟩ ?_))
 refine run_loop (ι := {y : Nat × Int // y.1 ≤ x.roles.length ∧ y.1 ≤ 100 ∧ 0 ≤ y.2 ∧ y.2 ≤ 444444444444444444 + y.1 * 140737488351232}) (fun y => [(1, .pointer (some ⟨b1, 0, none⟩)), (3, .int .i64 y.1.2), (4, .int .i64 (y.1.1 : Int))]) (fun _ => _) (fun _ => _) (fun y => x.roles.length - y.1.1) ⟨(0, (((((Ax.role x).length : Int) + ((Ax.a x).length : Int)) + ((Ax.b x).length : Int)) + (10 * (List.length (Ax.roles x) : Int)))), by simp, by simp, by dsimp only; omega, by dsimp only; omega⟩ ?_
 rintro ⟨⟨i, n⟩, hk⟩
 dsimp only at hk
 refine ok_fr [(1, .pointer (some ⟨b1, 0, none⟩)), (3, .int .i64 n), (4, .int .i64 (i : Int))] ⟨rfl, rfl, rfl, trivial⟩ ?_
 refine run_seq (run_seq (run_region (ops_val (yld_move rfl) rfl (ops_val (yld_field Tryz.runUnderlying41 rfl rfl rfl Tryz.sizeOf39) rfl ?_))))
 refine ops_val (yld_load 0 Tryz.isAgg39 rfl rfl rfl) rfl ?_
 refine ops_val (yld_lenS Tryz.runUnderlying39 rfl) rfl ?_
 refine ops_valB (yld_lss rfl rfl) rfl fun r1 hr1 => ?_
 refine ops_val (yld_move rfl) rfl ?_
 cases r1
 ·
  replace hr1 := of_decide_eq_false hr1
  refine ops_no rfl rfl rfl rfl (ops_no rfl rfl rfl rfl (ops_val (yld_pick_f rfl rfl) rfl ?_))
  refine ops_nil (fin_next rfl (run_cond_f rfl (run_exit rfl (fin_next rfl (run_seq (run_region (ops_val (yld_move rfl) rfl ?_)))))))
  refine ops_valB (yld_leq rfl rfl) rfl fun r2 hr2 => ?_
  refine ops_val (yld_move rfl) rfl ?_
  cases r2
  ·
   replace hr2 := of_decide_eq_false hr2
   refine ops_no rfl rfl rfl rfl (ops_no rfl rfl rfl rfl (ops_no rfl rfl rfl rfl (ops_val (yld_pick_f rfl rfl) rfl ?_)))
   refine ops_val (yld_move rfl) rfl (ops_no rfl rfl rfl rfl (ops_no rfl rfl rfl rfl (ops_no rfl rfl rfl rfl (ops_val (yld_pick_f rfl rfl) rfl ?_))))
   refine ops_val (yld_assign rfl) rfl (ops_nil (fin_next rfl (run_ret ?_)))
   exact ret1 Tryz.results18 false rfl (@List.perm_append_comm _ [_] _) (fun _ _ _ => trivial)
  ·
   replace hr2 := of_decide_eq_true hr2
   refine ops_yes rfl rfl (ops_val (yld_field Tryz.runUnderlying41 rfl rfl rfl Tryz.sizeOf38) rfl ?_)
   refine ops_yes rfl rfl (ops_val (yld_loadS 0 Tryz.isAgg38 Tryz.sizeOf38 rfl rfl rfl) rfl ?_)
   refine ops_yes rfl rfl (ops_call (few_c (Ax.left x) hok.left) rfl pf_nil (fun v _ h => by exact ⟨h.1.1, trivial⟩) rfl fun f1 => ?_)
   refine ops_val (yld_pick_t rfl rfl) rfl ?_
   refine ops_val (yld_move rfl) rfl ?_
   cases f1
   ·
    refine ops_no rfl rfl rfl rfl (ops_no rfl rfl rfl rfl (ops_no rfl rfl rfl rfl (ops_val (yld_pick_f rfl rfl) rfl ?_)))
    refine ops_val (yld_assign rfl) rfl (ops_nil (fin_next rfl (run_ret ?_)))
    exact ret1 Tryz.results18 false rfl (@List.perm_append_comm _ [_] _) (fun _ _ _ => trivial)
   ·
    refine ops_yes rfl rfl (ops_val (yld_field Tryz.runUnderlying41 rfl rfl rfl Tryz.sizeOf38) rfl ?_)
    refine ops_yes rfl rfl (ops_val (yld_loadS 0 Tryz.isAgg38 Tryz.sizeOf38 rfl rfl rfl) rfl ?_)
    refine ops_yes rfl rfl (ops_call (few_c (Ax.right x) hok.right) rfl pf_nil (fun v _ h => by exact ⟨h.1.2.1, trivial⟩) rfl fun f2 => ?_)
    refine ops_val (yld_pick_t rfl rfl) rfl ?_
    refine ops_val (yld_assign rfl) rfl (ops_nil (fin_next rfl (run_ret ?_)))
    exact ret1 Tryz.results18 f2 rfl (@List.perm_append_comm _ [_] _) (fun _ _ _ => trivial)
 ·
  replace hr1 := of_decide_eq_true hr1
  refine ops_yes rfl rfl (ops_val (yld_move rfl) rfl (ops_yes rfl rfl (ops_valB (yld_lss rfl rfl) rfl fun r3 hr3 => ?_)))
  refine ops_val (yld_pick_t rfl rfl) rfl ?_
  refine ops_nil (fin_next rfl ?_)
  cases r3
  ·
   replace hr3 := of_decide_eq_false hr3
   refine run_cond_f rfl (run_exit rfl (fin_next rfl (run_seq (run_region (ops_val (yld_move rfl) rfl (ops_valB (yld_leq rfl rfl) rfl fun r4 hr4 => ?_))))))
   refine ops_val (yld_move rfl) rfl ?_
   cases r4
   ·
    replace hr4 := of_decide_eq_false hr4
    refine ops_no rfl rfl rfl rfl (ops_no rfl rfl rfl rfl (ops_no rfl rfl rfl rfl (ops_val (yld_pick_f rfl rfl) rfl ?_)))
    refine ops_val (yld_move rfl) rfl (ops_no rfl rfl rfl rfl (ops_no rfl rfl rfl rfl (ops_no rfl rfl rfl rfl (ops_val (yld_pick_f rfl rfl) rfl ?_))))
    refine ops_val (yld_assign rfl) rfl (ops_nil (fin_next rfl (run_ret ?_)))
    exact ret1 Tryz.results18 false rfl (@List.perm_append_comm _ [_] _) (fun _ _ _ => trivial)
   ·
    replace hr4 := of_decide_eq_true hr4
    refine ops_yes rfl rfl (ops_val (yld_field Tryz.runUnderlying41 rfl rfl rfl Tryz.sizeOf38) rfl ?_)
    refine ops_yes rfl rfl (ops_val (yld_loadS 0 Tryz.isAgg38 Tryz.sizeOf38 rfl rfl rfl) rfl ?_)
    refine ops_yes rfl rfl (ops_call (few_c (Ax.left x) hok.left) rfl pf_nil (fun v _ h => by exact ⟨h.1.1, trivial⟩) rfl fun f3 => ?_)
    refine ops_val (yld_pick_t rfl rfl) rfl ?_
    refine ops_val (yld_move rfl) rfl ?_
    cases f3
    ·
     refine ops_no rfl rfl rfl rfl (ops_no rfl rfl rfl rfl (ops_no rfl rfl rfl rfl (ops_val (yld_pick_f rfl rfl) rfl ?_)))
     refine ops_val (yld_assign rfl) rfl (ops_nil (fin_next rfl (run_ret ?_)))
     exact ret1 Tryz.results18 false rfl (@List.perm_append_comm _ [_] _) (fun _ _ _ => trivial)
    ·
     refine ops_yes rfl rfl (ops_val (yld_field Tryz.runUnderlying41 rfl rfl rfl Tryz.sizeOf38) rfl ?_)
     refine ops_yes rfl rfl (ops_val (yld_loadS 0 Tryz.isAgg38 Tryz.sizeOf38 rfl rfl rfl) rfl ?_)
     refine ops_yes rfl rfl (ops_call (few_c (Ax.right x) hok.right) rfl pf_nil (fun v _ h => by exact ⟨h.1.2.1, trivial⟩) rfl fun f4 => ?_)
     refine ops_val (yld_pick_t rfl rfl) rfl ?_
     refine ops_val (yld_assign rfl) rfl (ops_nil (fin_next rfl (run_ret ?_)))
     exact ret1 Tryz.results18 f4 rfl (@List.perm_append_comm _ [_] _) (fun _ _ _ => trivial)
  ·
   replace hr3 := of_decide_eq_true hr3
   have hlx1 : i < List.length (Ax.roles x) := by omega
   obtain ⟨x1, hx1⟩ : ∃ e0, (Ax.roles x)[i]? = some e0 := ⟨_, List.getElem?_eq_getElem hlx1⟩
   have hmx1 : x1 ∈ (Ax.roles x) := List.mem_of_getElem? hx1
   have hrl := hok.roles x1 hmx1
   refine run_cond_t rfl (run_skip (fin_next rfl (run_seq (run_block (run_region (ops_val (yld_move rfl) rfl (ops_val (yld_field Tryz.runUnderlying41 rfl rfl rfl Tryz.sizeOf39) rfl ?_)))))))
   refine ops_val (yld_load 0 Tryz.isAgg39 rfl rfl rfl) rfl ?_
   refine ops_val (yld_move rfl) rfl (ops_val (yld_indexR Tryz.runUnderlying39 Tryz.sizeOf9 rfl rfl (fun v _ h => row_adr (n := 1) strC_len (by decide) (by exact h.1.2.2) hx1) (by omega) (by first | omega | (simp; done))) rfl ?_)
   refine ops_val (yld_loadR (ad := (Ax.ad x)) Tryz.isAgg9 rfl (fun v _ h => by exact h.1.2.2) (row_cells strC_len hx1 0 _ rfl)) rfl ?_
   refine ops_val (yld_lenT Tryz.runUnderlying9 rfl) rfl ?_
   refine ops_val (yld_arith rfl rfl rfl (wrap64 (by omega) (by omega))) rfl ?_
   refine ops_val (yld_assign rfl) rfl (ops_nil (fin_next rfl (run_region (ops_val (yld_move rfl) rfl (ops_val (yld_arith rfl rfl rfl (wrap64 (by omega) (by omega))) rfl ?_)))))
   refine ops_val (yld_assign rfl) rfl (ops_nil (fin_inv rfl ?_))
   exact ok_again ⟨(i + 1, n + (List.length x1 : Int)), hlx1, by dsimp only; omega, by dsimp only; omega, by dsimp only; omega⟩ (by dsimp only; omega) ⟨rfl, rfl, rfl, trivial⟩ (.refl _) (fun _ _ h => h)

theorem fewAxioms_c (l : List Ax) (ad : Option Addr) (cap : Nat) (most : Int) (hcap : l.length ≤ cap ∧ cap ≤ 2199023255488) (hok : ∀ x ∈ l, x.ok) : Tri Tryz.prog 38 #[.slice ad (List.length l) cap, .int .i64 most] [] [axsF ad l] (fun b : {b : Bool // b = true → (l.length : Int) ≤ most} => .bool b.1) (fun _ => []) (fun _ => []) := by
 refine tri_of_body Tryz.func38 rfl rfl Tryz.ntmps38 rfl fun v0 => ?_
 refine run_seq (run_region (ops_val (yld_assign rfl) rfl (ops_nil (fin_next rfl (run_seq (run_seq (run_region ?_)))))))
 refine ops_val (yld_move rfl) rfl (ops_val (yld_lenS Tryz.runUnderlying22 rfl) rfl ?_)
 refine ops_val (yld_move rfl) rfl (ops_valB (yld_gtr rfl rfl) rfl fun r1 hr1 => ?_)
 refine ops_nil (fin_next rfl ?_)
 cases r1
 ·
  replace hr1 := of_decide_eq_false hr1
  refine run_cond_f rfl (run_skip (fin_next rfl (run_seq (run_seq (run_region (ops_val (yld_assign rfl) rfl (ops_nil ?_)))))))
  refine fin_next rfl (run_block (ok_fr [(0, .slice ad (List.length l) cap), (5, .int .i64 ((0 : Nat) : Int))] ⟨rfl, rfl, trivial⟩ ?_))
  refine run_loop (ι := {q : Nat // q ≤ l.length}) (fun i => [(0, .slice ad (List.length l) cap), (5, .int .i64 (i.1 : Int))]) (fun _ => _) (fun _ => _) (fun i => l.length - i.1) ⟨0, by simp⟩ ?_
  rintro ⟨i, hk⟩
  refine ok_fr [(0, .slice ad (List.length l) cap), (5, .int .i64 (i : Int))] ⟨rfl, rfl, trivial⟩ ?_
  refine run_seq (run_seq (run_region (ops_val (yld_move rfl) rfl (ops_val (yld_move rfl) rfl (ops_val (yld_lenS Tryz.runUnderlying22 rfl) rfl ?_)))))
  refine ops_valB (yld_lss rfl rfl) rfl fun r2 hr2 => ?_
  refine ops_nil (fin_next rfl ?_)
  cases r2
  ·
   replace hr2 := of_decide_eq_false hr2
   refine run_cond_f rfl (run_exit rfl (fin_next rfl (run_seq (run_region (ops_val (yld_assign rfl) rfl (ops_nil (fin_next rfl ?_)))))))
   refine run_ret ?_
   exact ret1 Tryz.results38 ⟨true, fun _ => by omega⟩ rfl (.refl _) (fun _ _ _ => trivial)
  ·
   replace hr2 := of_decide_eq_true hr2
   have hlx1 : i < List.length l := by omega
   obtain ⟨x1, hx1⟩ : ∃ e0, l[i]? = some e0 := ⟨_, List.getElem?_eq_getElem hlx1⟩
   have hmx1 : x1 ∈ l := List.mem_of_getElem? hx1
   refine run_cond_t rfl (run_skip (fin_next rfl (run_seq (run_block (run_seq (run_region (ops_val (yld_move rfl) rfl ?_)))))))
   refine ops_val (yld_move rfl) rfl (ops_val (yld_indexR Tryz.runUnderlying22 Tryz.sizeOf41 rfl rfl (fun v _ h => row_adr (n := 16) Ax.cells_len (by decide) (by exact h.1.1) hx1) (by omega) (by first | omega | (simp; done))) rfl ?_)
   refine ops_val (yld_loadRS (ad := ad) (us := Ax.cells x1) Tryz.isAgg41 Tryz.sizeOf41 rfl (fun v _ h => by exact h.1.1) (Ax.cells_len _) (row_cells Ax.cells_len hx1)) rfl ?_
   refine ops_call (fewAxiom_c x1 (hok x1 hmx1)) rfl pf_nil (fun v _ h => by exact ⟨(h.1.2 x1 hmx1), trivial⟩) rfl fun r => ?_
   refine ops_val (yld_not rfl) rfl ?_
   refine ops_nil (fin_next rfl ?_)
   cases r
   ·
    refine run_cond_t rfl (run_seq (run_region (ops_val (yld_assign rfl) rfl (ops_nil (fin_next rfl (run_ret ?_))))))
    exact ret1 Tryz.results38 ⟨false, fun h => by cases h⟩ rfl (.refl _) (fun _ _ _ => trivial)
   ·
    refine run_cond_f rfl (run_skip (fin_next rfl (run_region (ops_val (yld_move rfl) rfl (ops_val (yld_arith rfl rfl rfl (wrap64 (by omega) (by omega))) rfl ?_)))))
    refine ops_val (yld_assign rfl) rfl (ops_nil (fin_inv rfl ?_))
    exact ok_again ⟨i + 1, hlx1⟩ (by simp; omega) ⟨rfl, rfl, trivial⟩ (.refl _) (fun _ _ h => h)
 ·
  replace hr1 := of_decide_eq_true hr1
  refine run_cond_t rfl (run_seq (run_region (ops_val (yld_assign rfl) rfl (ops_nil (fin_next rfl (run_ret ?_))))))
  exact ret1 Tryz.results38 ⟨false, fun h => by cases h⟩ rfl (.refl _) (fun _ _ _ => trivial)

theorem few12_c (l : List Ax) (ad : Option Addr) (cap : Nat) (hcap : l.length ≤ cap ∧ cap ≤ 2199023255488) (hok : ∀ x ∈ l, x.ok) : Tri Tryz.prog 11 #[.slice ad (List.length l) cap] [] [axsF ad l] (fun b : {b : Bool // b = true → l.length ≤ 12} => .bool b.1) (fun _ => []) (fun _ => []) := by
  refine tri_of_body Tryz.func11 rfl rfl Tryz.ntmps11 rfl fun v0 => ?_
  refine run_seq (run_region (ops_val (yld_assign rfl) rfl (ops_nil (fin_next rfl (run_seq (run_region (ops_val (yld_move rfl) rfl ?_)))))))
  refine ops_call (fewAxioms_c l ad cap 12 hcap hok) rfl pf_nil (fun v _ h => by exact ⟨h.1, trivial⟩) rfl fun ⟨r, hr⟩ => ?_
  dsimp only
  refine ops_val (yld_assign rfl) rfl (ops_nil (fin_next rfl (run_ret ?_)))
  exact ret1 Tryz.results11 ⟨r, fun h => by have := hr h; omega⟩ rfl (.refl _) (fun _ _ _ => trivial)

end Go.Proofs.YtoafjmalfclpoaaGreatDoor

/-
  My own contracts.
-/
namespace Go.Proofs.YtoafjmalfclpoaaGreatDoor
open Go Go.Sx Go.Proofs
set_option linter.unusedVariables false
attribute [local irreducible] Code.wp wpList wpAnyH

open Go.Vs
theorem mention_c (xs : List Str) (ad : Option Addr) (cap : Nat) {kb : Nat} (frm : Int) (l : List Pc) (q : CS) (hq : CInv l q) (hxs : xs.length ≤ 1000) (hlen : l.length + xs.length ≤ 100000) :
    Tri Tryz.prog 50 #[.pointer (some ⟨kb, 0, none⟩), .slice ad (List.length xs) cap] (collH kb frm q) [rowF ad (List.flatMap strC xs)] (fun _ : {q' : CS // CInv (ments frm xs l) q'} => .tuple #[]) (fun q' => collH kb frm q'.1) (fun _ => []) := by
  refine tri_of_body Tryz.func50 rfl rfl Tryz.ntmps50 rfl fun v0 => ?_
  refine run_seq (run_region (ops_val (yld_move rfl) rfl (ops_val (yld_lenS Tryz.runUnderlying39 rfl) rfl ?_)))
  refine ops_val (yld_move rfl) rfl (ops_nil (fin_next rfl (run_block (ok_fr [(0, .pointer (some ⟨kb, 0, none⟩)), (6, .slice ad (List.length xs) cap), (7, .int .i64 (List.length xs : Int)), (8, .int .i64 ((0 : Nat) : Int))] ⟨rfl, rfl, rfl, rfl, trivial⟩ ?_))))
  refine run_loop (ι := {y : Nat × CS // y.1 ≤ xs.length ∧ CInv (ments frm (xs.take y.1) l) y.2}) (fun y => [(0, .pointer (some ⟨kb, 0, none⟩)), (6, .slice ad (List.length xs) cap), (7, .int .i64 (List.length xs : Int)), (8, .int .i64 (y.1.1 : Int))]) (fun y => collH kb frm y.1.2) (fun _ => _) (fun y => xs.length - y.1.1) ⟨(0, q), by simp, hq⟩ ?_
  rintro ⟨⟨i, q0⟩, hk⟩
  dsimp only at hk
  dsimp only
  have hml := ments_len frm (xs.take i) l
  have hti : (xs.take i).length ≤ i := by simp; omega
  refine ok_fr [(0, .pointer (some ⟨kb, 0, none⟩)), (6, .slice ad (List.length xs) cap), (7, .int .i64 (List.length xs : Int)), (8, .int .i64 (i : Int))] ⟨rfl, rfl, rfl, rfl, trivial⟩ ?_
  refine run_seq (run_region (ops_valB (yld_lss rfl rfl) rfl fun r1 hr1 => ?_))
  refine ops_nil (fin_next rfl (run_seq ?_))
  cases r1
  · skip
    replace hr1 := of_decide_eq_false hr1
    refine run_cond_f rfl (run_exit rfl (fin_end rfl ?_))
    exact end0 Tryz.results50 ⟨q0, by have := hk.2; rwa [List.take_of_length_le (by omega)] at this⟩ rfl (F := []) pf_end (fun _ _ _ => trivial)
  · skip
    replace hr1 := of_decide_eq_true hr1
    have hlx1 : i < List.length xs := by omega
    obtain ⟨x1, hx1⟩ : ∃ e0, xs[i]? = some e0 := ⟨_, List.getElem?_eq_getElem hlx1⟩
    have hmx1 : x1 ∈ xs := List.mem_of_getElem? hx1
    refine run_cond_t rfl (run_skip (fin_next rfl (run_seq (run_block (run_seq (run_region (ops_val (yld_indexR Tryz.runUnderlying39 Tryz.sizeOf9 rfl rfl (fun v _ h => row_adr (n := 1) strC_len (by decide) (by exact h.1) hx1) (by omega) (by first | omega | (simp; done))) rfl ?_)))))))
    refine ops_val (yld_loadR (ad := ad) Tryz.isAgg9 rfl (fun v _ h => by exact h.1) (row_cells strC_len hx1 0 _ rfl)) rfl ?_
    refine ops_val (yld_assign rfl) rfl (ops_nil (fin_next rfl (run_region (ops_val (yld_move rfl) rfl (ops_val (yld_move rfl) rfl (ops_val (yld_struct strt31 rfl rfl) rfl ?_))))))
    refine ops_slit Tryz.runUnderlying25 Tryz.sizeOf31 Tryz.zeroValue31 rfl rfl rfl rfl rfl rfl fun b1 => ?_
    refine ops_call (add_c (Pc.mk 1 x1 [] [42] [] [] [] 0 0 0) frm (ments frm (xs.take i) l) q0 hk.2 (by omega)) rfl (pf_takeB pf_here (pf_takeB pf_here (pf_takeB pf_here pf_end))) (fun _ _ _ => by exact trivial) rfl fun ⟨q1, hq1⟩ => ?_
    dsimp only
    have hb1 := ins_len frm (ments frm (xs.take i) l) (Pc.mk 1 x1 [] [42] [] [] [] 0 0 0)
    refine ok_perm (List.Perm.symm pf_end) ?_
    refine ops_nil (fin_next rfl (run_region (ops_val (yld_arith rfl rfl rfl (wrap64 (by omega) (by omega))) rfl ?_)))
    refine ops_val (yld_move rfl) rfl (ops_nil (fin_inv rfl ?_))
    exact ok_again ⟨(i + 1, q1), hlx1, by dsimp only; rw [ments_step frm hx1]; exact hq1⟩ (by dsimp only; omega) ⟨rfl, rfl, rfl, rfl, trivial⟩ (F := []) pf_end (fun _ _ h => h)

theorem goal1_c (a b : Str) : Fn0 Tryz.prog 49 #[str a, str b] (Fc.val ⟨1, a, b, [], 0, 0⟩) := by
  refine tri_of_body Tryz.func49 rfl rfl Tryz.ntmps49 rfl fun v0 => ?_
  refine run_seq (run_region (ops_alloc Tryz.zeroValue50 rfl fun b1 => ?_))
  refine ops_nil (fin_next rfl (run_seq (run_region (ops_val (yld_move rfl) rfl (ops_val (yld_move rfl) rfl (ops_val (yld_struct strt50 rfl rfl) rfl ?_))))))
  refine ops_store 0 Tryz.sizeOf50 rfl rfl rfl rfl rfl rfl ?_
  refine ops_nil (fin_next rfl (run_ret ?_))
  exact retR () (fun a v h1 h2 => res_cellS (us := Fc.cells ⟨1, _, _, [], 0, 0⟩) 0 Tryz.results49 Tryz.isAgg50 Tryz.sizeOf50 rfl rfl rfl a v h1 h2) (@List.perm_append_comm _ [_] _) (fun v _ h => trivial)

theorem eltF : Elt Tryz.prog 43 50 6 72 := eltOf Tryz.underlying43 (z := .agg (Fc.mk 0 [] [] [] 0 0).cells.toArray) (by kernel_rfl) rfl (by decide)

theorem goal_c (x : Ax) (hok : x.ok) : Tri Tryz.prog 19 #[Ax.val x] [] [Ax.memF x, tabs] (fun y : {y : Option Addr × Nat × Option Addr × Nat // x.goalP.1.length ≤ y.2.1 ∧ y.2.1 ≤ maxLen ∧ x.goalP.2.1.length ≤ y.2.2.2 ∧ y.2.2.2 ≤ maxLen} => .tuple #[.slice y.1.1 x.goalP.1.length y.1.2.1, .slice y.1.2.2.1 x.goalP.2.1.length y.1.2.2.2, .int .i64 x.goalP.2.2])
  (fun _ => []) (fun y => [rowF y.1.1 (x.goalP.1.flatMap Pc.cells), rowF y.1.2.2.1 (x.goalP.2.1.flatMap Fc.cells)]) := by
 refine tri_of_body Tryz.func19 rfl rfl Tryz.ntmps19 rfl fun v0 => ?_
 have h1 := hok.role
 have h2 := hok.a
 have h3 := hok.b
 have h4 := Con.operandN_len hok.left
 have h5 := Con.operandN_len hok.right
 have h0 : ([] : List Pc).length = 0 := rfl
 refine run_seq (run_region (ops_box rfl rfl fun b1 => ?_))
 refine ops_val (yld_assign rfl) rfl (ops_val (yld_assign rfl) rfl (ops_val (yld_assign rfl) rfl (ops_nil (fin_next rfl (run_seq (run_seq (run_region ?_)))))))
 refine ops_val (yld_loadS 0 Tryz.isAgg41 Tryz.sizeOf41 rfl rfl rfl) rfl ?_
 refine ops_call (checkAxiom_c x hok) rfl pf_nil (fun v _ h => by exact ⟨h.1, h.2.1, trivial⟩) rfl fun _ => ?_
 refine ops_val (yld_assign rfl) rfl (ops_nil (fin_next rfl (run_seq (run_region (ops_val (yld_move rfl) rfl (ops_valB (yld_neq rfl rfl) rfl fun r1 hr1 => ?_))))))
 refine ops_nil (fin_next rfl ?_)
 cases r1
 ·
  replace hr1 := eq_of_bne hr1
  have G := Ax.good_of hr1
  refine run_cond_f rfl (run_skip (fin_next rfl (run_seq (run_region (ops_call (newCollector_c (-1)) rfl pf_nil (fun _ _ _ => by exact trivial) rfl fun ⟨kb, bm0⟩ => ?_)))))
  dsimp only
  refine ok_perm (@List.perm_append_comm _ _ [_]) ?_
  refine ops_val (yld_assign rfl) rfl (ops_nil (fin_next rfl (run_seq (run_region (ops_val (yld_move rfl) rfl (ops_call (sides_c kb) rfl pf_nil (fun _ _ _ => by exact trivial) rfl fun ⟨bk, bl, br⟩ => ?_))))))
  dsimp only
  refine ops_val (yld_move rfl) rfl (ops_val (yld_extract rfl rfl) rfl ?_)
  refine ops_val (yld_extract rfl rfl) rfl ?_
  refine ops_val (yld_assign rfl) rfl (ops_val (yld_assign rfl) rfl (ops_nil (fin_next rfl (run_seq (run_region (ops_val (yld_assign rfl) rfl (ops_nil ?_)))))))
  refine fin_next rfl (run_seq (run_seq (run_region (ops_val (yld_field Tryz.runUnderlying41 rfl rfl rfl Tryz.sizeOf3) rfl ?_))))
  refine ops_val (yld_load 0 Tryz.isAgg3 rfl rfl rfl) rfl ?_
  refine ops_nil (fin_next rfl (run_block (run_seq (run_seq (run_region (ops_valB (yld_eql rfl rfl) rfl fun r2 hr2 => ?_))))))
  refine ops_val (yld_assign rfl) rfl (ops_nil (fin_next rfl ?_))
  cases r2
  ·
   replace hr2 := ne_of_beq_false hr2
   refine run_cond_f rfl (run_region (ops_valB (yld_eql rfl rfl) rfl fun r3 hr3 => ?_))
   refine ops_val (yld_assign rfl) rfl (ops_nil (fin_next rfl ?_))
   cases r3
   ·
    replace hr3 := ne_of_beq_false hr3
    refine run_cond_f rfl (run_seq (run_region (ops_valB (yld_eql rfl rfl) rfl fun r4 hr4 => ?_)))
    refine ops_val (yld_assign rfl) rfl (ops_nil (fin_next rfl ?_))
    cases r4
    ·
     replace hr4 := ne_of_beq_false hr4
     refine run_cond_f rfl (run_seq (run_region (ops_valB (yld_eql rfl rfl) rfl fun r5 hr5 => ?_)))
     refine ops_val (yld_assign rfl) rfl (ops_nil (fin_next rfl ?_))
     cases r5
     ·
      replace hr5 := ne_of_beq_false hr5
      refine run_cond_f rfl (run_seq (run_region (ops_valB (yld_eql rfl rfl) rfl fun r6 hr6 => ?_)))
      refine ops_val (yld_assign rfl) rfl (ops_nil (fin_next rfl ?_))
      cases r6
      ·
       replace hr6 := ne_of_beq_false hr6
       refine run_cond_f rfl (run_seq (run_region (ops_valB (yld_eql rfl rfl) rfl fun r7 hr7 => ?_)))
       refine ops_val (yld_assign rfl) rfl (ops_nil (fin_next rfl ?_))
       cases r7
       ·
        replace hr7 := ne_of_beq_false hr7
        refine run_cond_f rfl (run_seq (run_region (ops_val (yld_assign rfl) rfl (ops_val (yld_assign rfl) rfl (ops_val (yld_assign rfl) rfl (ops_nil (fin_next rfl ?_)))))))
        refine run_ret ?_
        have e : x.goalP = ([], [], 22) := by unfold Ax.goalP; rw [if_neg (by omega)]; repeat rw [if_neg (by omega)]
        have hy : x.goalP.1.length ≤ 0 ∧ 0 ≤ maxLen ∧ x.goalP.2.1.length ≤ 0 ∧ 0 ≤ maxLen := by rw [e]; simp
        have hz : Value.tuple #[.slice none 0 0, .slice none 0 0, .int .i64 22] = .tuple #[.slice none x.goalP.1.length 0, .slice none x.goalP.2.1.length 0, .int .i64 x.goalP.2.2] := by rw [e] <;> rfl
        have hw1 : x.goalP.1.flatMap Pc.cells = [] := by rw [e]; rfl
        have hw2 : x.goalP.2.1.flatMap Fc.cells = [] := by rw [e]; rfl
        exact ret3 Tryz.results19 ⟨(none, 0, none, 0), hy⟩ rfl rfl rfl hz pf_nil (fun v _ h => ⟨.inl hw1, .inl hw2, trivial⟩)
       ·
        replace hr7 := eq_of_beq hr7
        refine run_cond_t rfl (run_seq ?_)
        refine run_drawH ((b1, .cells #[.int .i64 (Ax.kind x), .bool (Ax.opn x), .int .i64 (Con.kind (Ax.left x)), str (Con.name (Ax.left x)), .int .i64 (Con.lo (Ax.left x)), .int .i64 (Con.hi (Ax.left x)), .slice (Con.ad (Ax.left x)) (List.length (Con.parts (Ax.left x))) (Con.cap (Ax.left x)), .int .i64 (Con.kind (Ax.right x)), str (Con.name (Ax.right x)), .int .i64 (Con.lo (Ax.right x)), .int .i64 (Con.hi (Ax.right x)), .slice (Con.ad (Ax.right x)) (List.length (Con.parts (Ax.right x))) (Con.cap (Ax.right x)), .slice (Ax.ad x) (List.length (Ax.roles x)) (Ax.cap x), str (Ax.role x), str (Ax.a x), str (Ax.b x)] 41 (0, 0)) :: []) (by kernel_rfl) ?_
        refine any_sq 4 [0, 1, 2, 4, 5] (by kernel_rfl) (fun _ a b => ⟨Vw.sat.sub (a.perm pf_here), b⟩) ?_
        refine sq_val rfl (yld_move rfl) rfl ?_
        refine sq_val rfl (yld_field Tryz.runUnderlying41 rfl rfl rfl Tryz.sizeOf9) rfl ?_
        refine sq_val rfl (yld_load 0 Tryz.isAgg9 rfl rfl rfl) rfl ?_
        refine sq_val rfl (yld_field Tryz.runUnderlying41 rfl rfl rfl Tryz.sizeOf9) rfl ?_
        refine sq_val rfl (yld_load 0 Tryz.isAgg9 rfl rfl rfl) rfl ?_
        refine sq_nil ?_
        refine any_one 3 rfl (by kernel_rfl) ?_
        refine ops_call (individual_c (Ax.a x) hok.a) rfl pf_nil (fun _ _ _ => by exact trivial) rfl fun _ => ?_
        refine ops_nil (fin_inv rfl (any_next (fun _ a b => ⟨Vw.sat.sub (a.perm pf_here), b⟩) ?_))
        refine any_one 6 rfl (by kernel_rfl) ?_
        refine ops_call (individual_c (Ax.b x) hok.b) rfl pf_nil (fun _ _ _ => by exact trivial) rfl fun _ => ?_
        refine ops_nil (fin_inv rfl (any_next (fun _ a b => ⟨Vw.sat.sub (a.perm pf_here), b⟩) ?_))
        refine any_one 7 rfl (by kernel_rfl) ?_
        refine ops_slit Tryz.runUnderlying39 Tryz.sizeOf9 Tryz.zeroValue9 rfl rfl rfl rfl rfl rfl fun b2 => ?_
        refine ok_giveR (List.flatMap strC [(indS (Ax.a x)), (indS (Ax.b x))]) pf_here rfl ?_
        refine ops_nil (fin_inv rfl (any_next (fun _ a b => ⟨Vw.sat.sub (a.perm pf_here), b.2⟩) ?_))
        refine any_one 8 rfl (by kernel_rfl) ?_
        refine ops_call (mention_c [(indS (Ax.a x)), (indS (Ax.b x))] (some ⟨b2, 0, none⟩) 2 (-1) ([] : List Pc) ⟨.slice none 0 0, bm0, #[], 0, []⟩ ⟨SRow.nil _ _, rfl, by simp⟩ (by simp) (by simp only [List.length_cons, List.length_nil]; omega)) rfl (pf_takeB (pf_cons pf_here) (pf_takeB (pf_cons pf_here) (pf_cons pf_end))) (fun v _ h => by exact ⟨h.1, trivial⟩) rfl fun ⟨q1, hq1⟩ => ?_
        dsimp only
        have hb1 := ments_len (-1) [(indS (Ax.a x)), (indS (Ax.b x))] ([] : List Pc)
        refine ok_perm (@List.perm_append_comm _ _ [_]) ?_
        simp only [List.length_cons, List.length_nil] at hb1
        refine ops_nil (fin_inv rfl (any_next (fun _ a b => ⟨Vw.sat.sub (a.perm pf_here), b.2⟩) ?_))
        refine any_done (by kernel_rfl) ?_
        refine fin_next rfl ?_
        refine run_draw' (by kernel_rfl) ?_
        refine any_sq 5 [0, 1, 3, 4, 6, 7] (by kernel_rfl) (fun _ a b => ⟨a, b⟩) ?_
        refine sq_val rfl (yld_field Tryz.runUnderlying41 rfl rfl rfl Tryz.sizeOf9) rfl ?_
        refine sq_val rfl (yld_load 0 Tryz.isAgg9 rfl rfl rfl) rfl ?_
        refine sq_val rfl (yld_field Tryz.runUnderlying41 rfl rfl rfl Tryz.sizeOf9) rfl ?_
        refine sq_val rfl (yld_load 0 Tryz.isAgg9 rfl rfl rfl) rfl ?_
        refine sq_val rfl (yld_field Tryz.runUnderlying41 rfl rfl rfl Tryz.sizeOf9) rfl ?_
        refine sq_val rfl (yld_load 0 Tryz.isAgg9 rfl rfl rfl) rfl ?_
        refine sq_nil ?_
        refine any_one 2 rfl (by kernel_rfl) ?_
        refine ops_call (individual_c (Ax.a x) hok.a) rfl pf_nil (fun _ _ _ => by exact trivial) rfl fun _ => ?_
        refine ops_nil (fin_inv rfl (any_next (fun _ a b => ⟨a, b⟩) ?_))
        refine any_one 5 rfl (by kernel_rfl) ?_
        refine ops_call (individual_c (Ax.b x) hok.b) rfl pf_nil (fun _ _ _ => by exact trivial) rfl fun _ => ?_
        refine ops_nil (fin_inv rfl (any_next (fun _ a b => ⟨a, b⟩) ?_))
        refine any_sq 2 [8] (by kernel_rfl) (fun _ a b => ⟨a, b⟩) ?_
        refine sq_val rfl (yld_struct strt50 rfl rfl) rfl ?_
        refine sq_nil ?_
        refine any_one 9 rfl (by kernel_rfl) ?_
        refine ops_slit Tryz.runUnderlying43 Tryz.sizeOf50 Tryz.zeroValue50 rfl rfl rfl rfl rfl rfl fun b3 => ?_
        refine ops_nil (fin_inv rfl (any_next (fun _ a b => ⟨a.tail, b⟩) ?_))
        refine any_sq 0 [10] (by kernel_rfl) (fun _ a b => ⟨a.tail, b⟩) ?_
        refine sq_val rfl (yld_assign rfl) rfl ?_
        refine sq_nil ?_
        refine any_done (by kernel_rfl) ?_
        refine fin_next rfl (run_seq (run_region (ops_val (yld_move rfl) rfl (ops_val (yld_nilck rfl) rfl ?_))))
        refine ops_val (yld_field Tryz.runUnderlying74 rfl rfl rfl Tryz.sizeOf25) rfl ?_
        refine ops_val (yld_load 2 Tryz.isAgg25 rfl rfl rfl) rfl ?_
        refine ops_val (yld_move rfl) rfl (ops_val (yld_assign rfl) rfl (ops_val (yld_assign rfl) rfl (ops_val (yld_assign rfl) rfl (ops_nil (fin_next rfl (run_ret (ok_giveR (List.flatMap Fc.cells [(Fc.mk 2 (indS (Ax.a x)) (indS (Ax.b x)) (Ax.role x) 0 0)]) pf_here rfl ?_)))))))
        refine ok_giveRow hq1.row (pf_cons (pf_cons (pf_cons pf_end))) fun adP cpP hsvP hcP1 hcP2 => ?_
        have e : x.goalP = ((ments (-1) [(indS (Ax.a x)), (indS (Ax.b x))] ([] : List Pc)), [(Fc.mk 2 (indS (Ax.a x)) (indS (Ax.b x)) (Ax.role x) 0 0)], 0) := by
         unfold Ax.goalP; rw [if_neg (by omega)]; repeat (first | rfl | (rw [if_pos (by omega)]) | (rw [if_neg (by omega)]))
        have hy : x.goalP.1.length ≤ cpP ∧ cpP ≤ maxLen ∧ x.goalP.2.1.length ≤ 1 ∧ 1 ≤ maxLen := by rw [e]; exact ⟨hcP1, hcP2, by simp, by decide⟩
        have hz : Value.tuple #[q1.sv, .slice (some ⟨b3, 0, none⟩) 1 1, .int .i64 0] = .tuple #[.slice adP x.goalP.1.length cpP, .slice (some ⟨b3, 0, none⟩) x.goalP.2.1.length 1, .int .i64 x.goalP.2.2] := by
         rw [e, hsvP] <;> rfl
        have hw1 : List.flatMap Pc.cells (ments (-1) [(indS (Ax.a x)), (indS (Ax.b x))] ([] : List Pc)) = x.goalP.1.flatMap Pc.cells := by rw [e]
        have hw2 : List.flatMap Fc.cells [(Fc.mk 2 (indS (Ax.a x)) (indS (Ax.b x)) (Ax.role x) 0 0)] = x.goalP.2.1.flatMap Fc.cells := by rw [e]
        exact ret3 Tryz.results19 ⟨(adP, cpP, (some ⟨b3, 0, none⟩), 1), hy⟩ rfl rfl rfl hz pf_nil (fun v _ h => ⟨hw1 ▸ h.1, hw2 ▸ h.2.1, trivial⟩)
      ·
       replace hr6 := eq_of_beq hr6
       obtain ⟨fr, zr⟩ := Con.check_zero (G.right (by omega))
       refine run_cond_t rfl (run_seq ?_)
       refine run_drawH ((b1, .cells #[.int .i64 (Ax.kind x), .bool (Ax.opn x), .int .i64 (Con.kind (Ax.left x)), str (Con.name (Ax.left x)), .int .i64 (Con.lo (Ax.left x)), .int .i64 (Con.hi (Ax.left x)), .slice (Con.ad (Ax.left x)) (List.length (Con.parts (Ax.left x))) (Con.cap (Ax.left x)), .int .i64 (Con.kind (Ax.right x)), str (Con.name (Ax.right x)), .int .i64 (Con.lo (Ax.right x)), .int .i64 (Con.hi (Ax.right x)), .slice (Con.ad (Ax.right x)) (List.length (Con.parts (Ax.right x))) (Con.cap (Ax.right x)), .slice (Ax.ad x) (List.length (Ax.roles x)) (Ax.cap x), str (Ax.role x), str (Ax.a x), str (Ax.b x)] 41 (0, 0)) :: []) (by kernel_rfl) ?_
       refine any_sq 4 [0, 1, 2, 4, 5] (by kernel_rfl) (fun _ a b => ⟨Vw.sat.sub (a.perm pf_here), b⟩) ?_
       refine sq_val rfl (yld_move rfl) rfl ?_
       refine sq_val rfl (yld_field Tryz.runUnderlying41 rfl rfl rfl Tryz.sizeOf9) rfl ?_
       refine sq_val rfl (yld_load 0 Tryz.isAgg9 rfl rfl rfl) rfl ?_
       refine sq_val rfl (yld_field Tryz.runUnderlying41 rfl rfl rfl Tryz.sizeOf38) rfl ?_
       refine sq_val rfl (yld_loadS 0 Tryz.isAgg38 Tryz.sizeOf38 rfl rfl rfl) rfl ?_
       refine sq_nil ?_
       refine any_one 3 rfl (by kernel_rfl) ?_
       refine ops_call (individual_c (Ax.a x) hok.a) rfl pf_nil (fun _ _ _ => by exact trivial) rfl fun _ => ?_
       refine ops_nil (fin_inv rfl (any_next (fun _ a b => ⟨Vw.sat.sub (a.perm pf_here), b⟩) ?_))
       refine any_one 6 rfl (by kernel_rfl) ?_
       refine ops_call (atom_c (Ax.right x) hok.right) rfl pf_nil (fun v _ h => by exact ⟨h.2.2.2.1.2.1, h.2.2.2.2.1, trivial⟩) rfl fun _ => ?_
       refine ops_nil (fin_inv rfl (any_next (fun _ a b => ⟨Vw.sat.sub (a.perm pf_here), b⟩) ?_))
       refine any_one 7 rfl (by kernel_rfl) ?_
       refine ops_slit Tryz.runUnderlying39 Tryz.sizeOf9 Tryz.zeroValue9 rfl rfl rfl rfl rfl rfl fun b4 => ?_
       refine ok_giveR (List.flatMap strC [(indS (Ax.a x)), (Con.atom (Ax.right x))]) pf_here rfl ?_
       refine ops_nil (fin_inv rfl (any_next (fun _ a b => ⟨Vw.sat.sub (a.perm pf_here), b.2⟩) ?_))
       refine any_one 8 rfl (by kernel_rfl) ?_
       refine ops_call (mention_c [(indS (Ax.a x)), (Con.atom (Ax.right x))] (some ⟨b4, 0, none⟩) 2 (-1) ([] : List Pc) ⟨.slice none 0 0, bm0, #[], 0, []⟩ ⟨SRow.nil _ _, rfl, by simp⟩ (by simp) (by simp only [List.length_cons, List.length_nil]; omega)) rfl (pf_takeB (pf_cons pf_here) (pf_takeB (pf_cons pf_here) (pf_cons pf_end))) (fun v _ h => by exact ⟨h.1, trivial⟩) rfl fun ⟨q2, hq2⟩ => ?_
       dsimp only
       have hb2 := ments_len (-1) [(indS (Ax.a x)), (Con.atom (Ax.right x))] ([] : List Pc)
       refine ok_perm (@List.perm_append_comm _ _ [_]) ?_
       simp only [List.length_cons, List.length_nil] at hb2
       refine ops_nil (fin_inv rfl (any_next (fun _ a b => ⟨Vw.sat.sub (a.perm pf_here), b.2⟩) ?_))
       refine any_done (by kernel_rfl) ?_
       refine fin_next rfl (run_seq (run_region (ops_val (yld_move rfl) rfl (ops_val (yld_field Tryz.runUnderlying41 rfl rfl rfl Tryz.sizeOf38) rfl ?_))))
       refine ops_val (yld_loadS 0 Tryz.isAgg38 Tryz.sizeOf38 rfl rfl rfl) rfl ?_
       refine ops_calld (left_c (kb := kb) (bk := bk) (bs := bl) (frm := (-1)) _ (Ax.right x) (Nat.le_refl _) hok.right fr (ments (-1) [(indS (Ax.a x)), (Con.atom (Ax.right x))] ([] : List Pc)) q2 hq2 (by omega)) rfl rfl (pf_takeB (pf_cons pf_here) (pf_takeB (pf_cons pf_here) (pf_cons pf_end))) (fun v _ h => by exact ⟨h.2.2.2.2.1.2.1, h.2.2.2.2.2.1, h.2.1, h.2.2.1, trivial⟩) rfl fun ⟨q3, hq3⟩ => ?_
       dsimp only
       have hb3 := Con.leftP_len (-1) _ (Ax.right x) (Nat.le_refl _) (ments (-1) [(indS (Ax.a x)), (Con.atom (Ax.right x))] ([] : List Pc))
       refine ok_perm (@List.perm_append_comm _ _ [_]) ?_
       refine ops_nil (fin_next rfl ?_)
       refine run_draw' (by kernel_rfl) ?_
       refine any_sq 5 [0, 1, 2, 4, 5] (by kernel_rfl) (fun _ a b => ⟨a, b⟩) ?_
       refine sq_val rfl (yld_move rfl) rfl ?_
       refine sq_val rfl (yld_field Tryz.runUnderlying41 rfl rfl rfl Tryz.sizeOf9) rfl ?_
       refine sq_val rfl (yld_load 0 Tryz.isAgg9 rfl rfl rfl) rfl ?_
       refine sq_val rfl (yld_field Tryz.runUnderlying41 rfl rfl rfl Tryz.sizeOf38) rfl ?_
       refine sq_val rfl (yld_loadS 0 Tryz.isAgg38 Tryz.sizeOf38 rfl rfl rfl) rfl ?_
       refine sq_nil ?_
       refine any_one 3 rfl (by kernel_rfl) ?_
       refine ops_call (individual_c (Ax.a x) hok.a) rfl pf_nil (fun _ _ _ => by exact trivial) rfl fun _ => ?_
       refine ops_nil (fin_inv rfl (any_next (fun _ a b => ⟨a, b⟩) ?_))
       refine any_one 6 rfl (by kernel_rfl) ?_
       refine ops_call (atom_c (Ax.right x) hok.right) rfl pf_nil (fun v _ h => by exact ⟨h.2.2.2.2.1.2.1, h.2.2.2.2.2.1, trivial⟩) rfl fun _ => ?_
       refine ops_nil (fin_inv rfl (any_next (fun _ a b => ⟨a, b⟩) ?_))
       refine any_one 7 rfl (by kernel_rfl) ?_
       refine ops_calld (goal1_c (indS (Ax.a x)) (Con.atom (Ax.right x))) rfl rfl pf_nil (fun _ _ _ => by exact trivial) rfl fun _ => ?_
       refine ops_nil (fin_inv rfl (any_next (fun _ a b => ⟨a, b⟩) ?_))
       refine any_one 8 rfl (by kernel_rfl) ?_
       refine ops_slit Tryz.runUnderlying43 Tryz.sizeOf50 Tryz.zeroValue50 rfl rfl rfl rfl rfl rfl fun b5 => ?_
       refine ops_nil (fin_inv rfl (any_next (fun _ a b => ⟨a.tail, b⟩) ?_))
       refine any_sq 0 [9] (by kernel_rfl) (fun _ a b => ⟨a.tail, b⟩) ?_
       refine sq_val rfl (yld_assign rfl) rfl ?_
       refine sq_nil ?_
       refine any_done (by kernel_rfl) ?_
       refine fin_next rfl (run_seq (run_region (ops_val (yld_move rfl) rfl (ops_val (yld_nilck rfl) rfl ?_))))
       refine ops_val (yld_field Tryz.runUnderlying74 rfl rfl rfl Tryz.sizeOf25) rfl ?_
       refine ops_val (yld_load 2 Tryz.isAgg25 rfl rfl rfl) rfl ?_
       refine ops_val (yld_move rfl) rfl (ops_val (yld_assign rfl) rfl (ops_val (yld_assign rfl) rfl (ops_val (yld_assign rfl) rfl (ops_nil (fin_next rfl (run_ret (ok_giveR (List.flatMap Fc.cells [(Fc.mk 1 (indS (Ax.a x)) (Con.atom (Ax.right x)) [] 0 0)]) pf_here rfl ?_)))))))
       refine ok_giveRow hq3.row (pf_cons (pf_cons (pf_cons pf_end))) fun adP cpP hsvP hcP1 hcP2 => ?_
       have e : x.goalP = ((Con.leftP (-1) (Ax.right x) (ments (-1) [(indS (Ax.a x)), (Con.atom (Ax.right x))] ([] : List Pc))), [(Fc.mk 1 (indS (Ax.a x)) (Con.atom (Ax.right x)) [] 0 0)], 0) := by
        unfold Ax.goalP; rw [if_neg (by omega)]; repeat (first | rfl | (rw [if_pos (by omega)]) | (rw [if_neg (by omega)]))
       have hy : x.goalP.1.length ≤ cpP ∧ cpP ≤ maxLen ∧ x.goalP.2.1.length ≤ 1 ∧ 1 ≤ maxLen := by rw [e]; exact ⟨hcP1, hcP2, by simp, by decide⟩
       have hz : Value.tuple #[q3.sv, .slice (some ⟨b5, 0, none⟩) 1 1, .int .i64 0] = .tuple #[.slice adP x.goalP.1.length cpP, .slice (some ⟨b5, 0, none⟩) x.goalP.2.1.length 1, .int .i64 x.goalP.2.2] := by
        rw [e, hsvP] <;> rfl
       have hw1 : List.flatMap Pc.cells (Con.leftP (-1) (Ax.right x) (ments (-1) [(indS (Ax.a x)), (Con.atom (Ax.right x))] ([] : List Pc))) = x.goalP.1.flatMap Pc.cells := by rw [e]
       have hw2 : List.flatMap Fc.cells [(Fc.mk 1 (indS (Ax.a x)) (Con.atom (Ax.right x)) [] 0 0)] = x.goalP.2.1.flatMap Fc.cells := by rw [e]
       exact ret3 Tryz.results19 ⟨(adP, cpP, (some ⟨b5, 0, none⟩), 1), hy⟩ rfl rfl rfl hz pf_nil (fun v _ h => ⟨hw1 ▸ h.1, hw2 ▸ h.2.1, trivial⟩)
     ·
      replace hr5 := eq_of_beq hr5
      obtain ⟨fr, zr⟩ := Con.check_zero (G.right (by omega))
      refine run_cond_t rfl (run_seq (run_region (ops_val (yld_field Tryz.runUnderlying41 rfl rfl rfl Tryz.sizeOf9) rfl ?_)))
      refine ops_val (yld_load 0 Tryz.isAgg9 rfl rfl rfl) rfl ?_
      refine ops_val (yld_cat rfl rfl (by simp only [List.length_append, List.length_cons, List.length_nil]; omega)) rfl ?_
      refine ops_val (yld_eq (yld_cat rfl rfl (by simp only [List.length_append, List.length_cons, List.length_nil]; omega)) (show _ = str (Ax.doms x) from rfl)) rfl ?_
      refine ops_val (yld_assign rfl) rfl (ops_nil (fin_next rfl (run_seq (run_region (ops_val (yld_move rfl) rfl (ops_val (yld_move rfl) rfl (ops_val (yld_field Tryz.runUnderlying41 rfl rfl rfl Tryz.sizeOf38) rfl ?_)))))))
      refine ops_val (yld_loadS 0 Tryz.isAgg38 Tryz.sizeOf38 rfl rfl rfl) rfl ?_
      refine ops_call (atom_c (Ax.right x) hok.right) rfl pf_nil (fun v _ h => by exact ⟨h.2.2.2.1.2.1, h.2.2.2.2.1, trivial⟩) rfl fun _ => ?_
      refine ops_slit Tryz.runUnderlying39 Tryz.sizeOf9 Tryz.zeroValue9 rfl rfl rfl rfl rfl rfl fun b6 => ?_
      refine ok_giveR (List.flatMap strC [(Ax.doms x), (Con.atom (Ax.right x))]) pf_here rfl ?_
      refine ops_call (mention_c [(Ax.doms x), (Con.atom (Ax.right x))] (some ⟨b6, 0, none⟩) 2 (-1) ([] : List Pc) ⟨.slice none 0 0, bm0, #[], 0, []⟩ ⟨SRow.nil _ _, rfl, by simp⟩ (by simp) (by simp only [List.length_cons, List.length_nil]; omega)) rfl (pf_takeB (pf_cons pf_here) (pf_takeB (pf_cons pf_here) (pf_cons pf_end))) (fun v _ h => by exact ⟨h.1, trivial⟩) rfl fun ⟨q4, hq4⟩ => ?_
      dsimp only
      have hb4 := ments_len (-1) [(Ax.doms x), (Con.atom (Ax.right x))] ([] : List Pc)
      refine ok_perm (@List.perm_append_comm _ _ [_]) ?_
      simp only [List.length_cons, List.length_nil] at hb4
      refine ops_nil (fin_next rfl (run_seq (run_region (ops_val (yld_move rfl) rfl (ops_val (yld_move rfl) rfl (ops_val (yld_field Tryz.runUnderlying41 rfl rfl rfl Tryz.sizeOf9) rfl ?_))))))
      refine ops_val (yld_load 0 Tryz.isAgg9 rfl rfl rfl) rfl ?_
      refine ops_val (yld_struct strt31 rfl rfl) rfl ?_
      refine ops_slit Tryz.runUnderlying25 Tryz.sizeOf31 Tryz.zeroValue31 rfl rfl rfl rfl rfl rfl fun b7 => ?_
      refine ops_call (add_c (Pc.mk 3 (Ax.doms x) [] [42] (Ax.role x) [] [] 0 0 0) (-1) (ments (-1) [(Ax.doms x), (Con.atom (Ax.right x))] ([] : List Pc)) q4 hq4 (by omega)) rfl (pf_takeB pf_here (pf_takeB (pf_cons pf_here) (pf_takeB (pf_cons pf_here) (pf_cons pf_end)))) (fun _ _ _ => by exact trivial) rfl fun ⟨q5, hq5⟩ => ?_
      dsimp only
      have hb5 := ins_len (-1) (ments (-1) [(Ax.doms x), (Con.atom (Ax.right x))] ([] : List Pc)) (Pc.mk 3 (Ax.doms x) [] [42] (Ax.role x) [] [] 0 0 0)
      refine ok_perm (@List.perm_append_comm _ _ [_]) ?_
      refine ops_nil (fin_next rfl (run_seq (run_region (ops_val (yld_move rfl) rfl (ops_val (yld_field Tryz.runUnderlying41 rfl rfl rfl Tryz.sizeOf38) rfl ?_)))))
      refine ops_val (yld_loadS 0 Tryz.isAgg38 Tryz.sizeOf38 rfl rfl rfl) rfl ?_
      refine ops_calld (left_c (kb := kb) (bk := bk) (bs := bl) (frm := (-1)) _ (Ax.right x) (Nat.le_refl _) hok.right fr (ins (-1) (ments (-1) [(Ax.doms x), (Con.atom (Ax.right x))] ([] : List Pc)) (Pc.mk 3 (Ax.doms x) [] [42] (Ax.role x) [] [] 0 0 0)) q5 hq5 (by omega)) rfl rfl (pf_takeB (pf_cons pf_here) (pf_takeB (pf_cons pf_here) (pf_cons pf_end))) (fun v _ h => by exact ⟨h.2.2.2.2.1.2.1, h.2.2.2.2.2.1, h.2.1, h.2.2.1, trivial⟩) rfl fun ⟨q6, hq6⟩ => ?_
      dsimp only
      have hb6 := Con.leftP_len (-1) _ (Ax.right x) (Nat.le_refl _) (ins (-1) (ments (-1) [(Ax.doms x), (Con.atom (Ax.right x))] ([] : List Pc)) (Pc.mk 3 (Ax.doms x) [] [42] (Ax.role x) [] [] 0 0 0))
      refine ok_perm (@List.perm_append_comm _ _ [_]) ?_
      refine ops_nil (fin_next rfl (run_region (ops_val (yld_move rfl) rfl (ops_val (yld_move rfl) rfl (ops_val (yld_field Tryz.runUnderlying41 rfl rfl rfl Tryz.sizeOf38) rfl ?_)))))
      refine ops_val (yld_loadS 0 Tryz.isAgg38 Tryz.sizeOf38 rfl rfl rfl) rfl ?_
      refine ops_call (atom_c (Ax.right x) hok.right) rfl pf_nil (fun v _ h => by exact ⟨h.2.2.2.2.1.2.1, h.2.2.2.2.2.1, trivial⟩) rfl fun _ => ?_
      refine ops_calld (goal1_c (Ax.doms x) (Con.atom (Ax.right x))) rfl rfl pf_nil (fun _ _ _ => by exact trivial) rfl fun _ => ?_
      refine ops_slit Tryz.runUnderlying43 Tryz.sizeOf50 Tryz.zeroValue50 rfl rfl rfl rfl rfl rfl fun b8 => ?_
      refine ops_val (yld_assign rfl) rfl (ops_nil (fin_next rfl (run_seq (run_region (ops_val (yld_move rfl) rfl (ops_val (yld_nilck rfl) rfl ?_))))))
      refine ops_val (yld_field Tryz.runUnderlying74 rfl rfl rfl Tryz.sizeOf25) rfl ?_
      refine ops_val (yld_load 2 Tryz.isAgg25 rfl rfl rfl) rfl ?_
      refine ops_val (yld_move rfl) rfl (ops_val (yld_assign rfl) rfl (ops_val (yld_assign rfl) rfl (ops_val (yld_assign rfl) rfl (ops_nil (fin_next rfl (run_ret (ok_giveR (List.flatMap Fc.cells [(Fc.mk 1 (Ax.doms x) (Con.atom (Ax.right x)) [] 0 0)]) pf_here rfl ?_)))))))
      refine ok_giveRow hq6.row (pf_cons (pf_cons (pf_cons pf_end))) fun adP cpP hsvP hcP1 hcP2 => ?_
      have e : x.goalP = ((Con.leftP (-1) (Ax.right x) (ins (-1) (ments (-1) [(Ax.doms x), (Con.atom (Ax.right x))] ([] : List Pc)) (Pc.mk 3 (Ax.doms x) [] [42] (Ax.role x) [] [] 0 0 0))), [(Fc.mk 1 (Ax.doms x) (Con.atom (Ax.right x)) [] 0 0)], 0) := by
       unfold Ax.goalP; rw [if_neg (by omega)]; repeat (first | rfl | (rw [if_pos (by omega)]) | (rw [if_neg (by omega)]))
      have hy : x.goalP.1.length ≤ cpP ∧ cpP ≤ maxLen ∧ x.goalP.2.1.length ≤ 1 ∧ 1 ≤ maxLen := by rw [e]; exact ⟨hcP1, hcP2, by simp, by decide⟩
      have hz : Value.tuple #[q6.sv, .slice (some ⟨b8, 0, none⟩) 1 1, .int .i64 0] = .tuple #[.slice adP x.goalP.1.length cpP, .slice (some ⟨b8, 0, none⟩) x.goalP.2.1.length 1, .int .i64 x.goalP.2.2] := by
       rw [e, hsvP] <;> rfl
      have hw1 : List.flatMap Pc.cells (Con.leftP (-1) (Ax.right x) (ins (-1) (ments (-1) [(Ax.doms x), (Con.atom (Ax.right x))] ([] : List Pc)) (Pc.mk 3 (Ax.doms x) [] [42] (Ax.role x) [] [] 0 0 0))) = x.goalP.1.flatMap Pc.cells := by rw [e]
      have hw2 : List.flatMap Fc.cells [(Fc.mk 1 (Ax.doms x) (Con.atom (Ax.right x)) [] 0 0)] = x.goalP.2.1.flatMap Fc.cells := by rw [e]
      exact ret3 Tryz.results19 ⟨(adP, cpP, (some ⟨b8, 0, none⟩), 1), hy⟩ rfl rfl rfl hz pf_nil (fun v _ h => ⟨hw1 ▸ h.1, hw2 ▸ h.2.1, trivial⟩)
    ·
     replace hr4 := eq_of_beq hr4
     obtain ⟨fl, zl⟩ := Con.check_zero (G.left (by omega))
     obtain ⟨fr, zr⟩ := Con.check_zero (G.right (by omega))
     refine run_cond_t rfl (run_seq ?_)
     refine run_draw' (by kernel_rfl) ?_
     refine any_sq 7 [0, 1, 5, 6] (by kernel_rfl) (fun _ a b => ⟨a, b⟩) ?_
     refine sq_val rfl (yld_field Tryz.runUnderlying41 rfl rfl rfl Tryz.sizeOf38) rfl ?_
     refine sq_val rfl (yld_loadS 0 Tryz.isAgg38 Tryz.sizeOf38 rfl rfl rfl) rfl ?_
     refine sq_val rfl (yld_field Tryz.runUnderlying41 rfl rfl rfl Tryz.sizeOf38) rfl ?_
     refine sq_val rfl (yld_loadS 0 Tryz.isAgg38 Tryz.sizeOf38 rfl rfl rfl) rfl ?_
     refine sq_nil ?_
     refine any_one 2 rfl (by kernel_rfl) ?_
     refine ops_call (nOperand_c (Ax.left x) hok.left) rfl pf_nil (fun v _ h => by exact ⟨h.2.2.2.1.1, h.2.2.2.2.1, trivial⟩) rfl fun _ => ?_
     refine ops_nil (fin_inv rfl (any_next (fun _ a b => ⟨a, b⟩) ?_))
     refine any_sq 4 [3, 4] (by kernel_rfl) (fun _ a b => ⟨a, b⟩) ?_
     refine sq_val rfl (yld_cat rfl rfl (by simp only [List.length_append, List.length_cons, List.length_nil]; omega)) rfl ?_
     refine sq_val rfl (yld_cat rfl rfl (by simp only [List.length_append, List.length_cons, List.length_nil]; omega)) rfl ?_
     refine sq_nil ?_
     refine any_one 7 rfl (by kernel_rfl) ?_
     refine ops_call (nOperand_c (Ax.right x) hok.right) rfl pf_nil (fun v _ h => by exact ⟨h.2.2.2.1.2.1, h.2.2.2.2.1, trivial⟩) rfl fun _ => ?_
     refine ops_nil (fin_inv rfl (any_next (fun _ a b => ⟨a, b⟩) ?_))
     refine any_sq 0 [8, 9, 10] (by kernel_rfl) (fun _ a b => ⟨a, b⟩) ?_
     refine sq_val rfl (yld_cat rfl rfl (by simp only [List.length_append, List.length_cons, List.length_nil]; omega)) rfl ?_
     refine sq_val rfl (yld_eq (yld_cat rfl rfl (by simp only [List.length_append, List.length_cons, List.length_nil]; omega)) (show _ = str (Ax.disj x) from rfl)) rfl ?_
     refine sq_val rfl (yld_assign rfl) rfl ?_
     refine sq_nil ?_
     refine any_done (by kernel_rfl) ?_
     refine fin_next rfl (run_seq (run_region (ops_val (yld_move rfl) rfl (ops_val (yld_move rfl) rfl (ops_slit Tryz.runUnderlying39 Tryz.sizeOf9 Tryz.zeroValue9 rfl rfl rfl rfl rfl rfl fun b9 => ?_)))))
     refine ok_giveR (List.flatMap strC [(Ax.disj x), [33]]) pf_here rfl ?_
     refine ops_call (mention_c [(Ax.disj x), [33]] (some ⟨b9, 0, none⟩) 2 (-1) ([] : List Pc) ⟨.slice none 0 0, bm0, #[], 0, []⟩ ⟨SRow.nil _ _, rfl, by simp⟩ (by simp) (by simp only [List.length_cons, List.length_nil]; omega)) rfl (pf_takeB (pf_cons pf_here) (pf_takeB (pf_cons pf_here) (pf_cons pf_end))) (fun v _ h => by exact ⟨h.1, trivial⟩) rfl fun ⟨q7, hq7⟩ => ?_
     dsimp only
     have hb7 := ments_len (-1) [(Ax.disj x), [33]] ([] : List Pc)
     refine ok_perm (@List.perm_append_comm _ _ [_]) ?_
     simp only [List.length_cons, List.length_nil] at hb7
     refine ops_nil (fin_next rfl (run_seq (run_region (ops_val (yld_move rfl) rfl (ops_val (yld_move rfl) rfl (ops_val (yld_field Tryz.runUnderlying41 rfl rfl rfl Tryz.sizeOf38) rfl ?_))))))
     refine ops_val (yld_loadS 0 Tryz.isAgg38 Tryz.sizeOf38 rfl rfl rfl) rfl ?_
     refine ops_call (atom_c (Ax.left x) hok.left) rfl pf_nil (fun v _ h => by exact ⟨h.2.2.2.2.1.1, h.2.2.2.2.2.1, trivial⟩) rfl fun _ => ?_
     refine ops_val (yld_struct strt31 rfl rfl) rfl ?_
     refine ops_slit Tryz.runUnderlying25 Tryz.sizeOf31 Tryz.zeroValue31 rfl rfl rfl rfl rfl rfl fun b10 => ?_
     refine ops_call (add_c (Pc.mk 1 (Ax.disj x) [] (Con.atom (Ax.left x)) [] [] [] 0 0 0) (-1) (ments (-1) [(Ax.disj x), [33]] ([] : List Pc)) q7 hq7 (by omega)) rfl (pf_takeB pf_here (pf_takeB (pf_cons pf_here) (pf_takeB (pf_cons pf_here) (pf_cons pf_end)))) (fun _ _ _ => by exact trivial) rfl fun ⟨q8, hq8⟩ => ?_
     dsimp only
     have hb8 := ins_len (-1) (ments (-1) [(Ax.disj x), [33]] ([] : List Pc)) (Pc.mk 1 (Ax.disj x) [] (Con.atom (Ax.left x)) [] [] [] 0 0 0)
     refine ok_perm (@List.perm_append_comm _ _ [_]) ?_
     refine ops_nil (fin_next rfl (run_seq (run_region (ops_val (yld_move rfl) rfl (ops_val (yld_field Tryz.runUnderlying41 rfl rfl rfl Tryz.sizeOf38) rfl ?_)))))
     refine ops_val (yld_loadS 0 Tryz.isAgg38 Tryz.sizeOf38 rfl rfl rfl) rfl ?_
     refine ops_calld (right_c (kb := kb) (bk := bk) (bs := br) (frm := (-1)) _ (Ax.left x) (Nat.le_refl _) hok.left fl (ins (-1) (ments (-1) [(Ax.disj x), [33]] ([] : List Pc)) (Pc.mk 1 (Ax.disj x) [] (Con.atom (Ax.left x)) [] [] [] 0 0 0)) q8 hq8 (by omega)) rfl rfl (pf_takeB (pf_cons pf_here) (pf_takeB (pf_cons pf_here) (pf_cons pf_end))) (fun v _ h => by exact ⟨h.2.2.2.2.1.1, h.2.2.2.2.2.1, h.2.1, h.2.2.2.1, trivial⟩) rfl fun ⟨q9, hq9⟩ => ?_
     dsimp only
     have hb9 := Con.rightP_len (-1) _ (Ax.left x) (Nat.le_refl _) (ins (-1) (ments (-1) [(Ax.disj x), [33]] ([] : List Pc)) (Pc.mk 1 (Ax.disj x) [] (Con.atom (Ax.left x)) [] [] [] 0 0 0))
     refine ok_perm (@List.perm_append_comm _ _ [_]) ?_
     refine ops_nil (fin_next rfl (run_seq (run_region (ops_val (yld_move rfl) rfl (ops_val (yld_move rfl) rfl (ops_val (yld_field Tryz.runUnderlying41 rfl rfl rfl Tryz.sizeOf38) rfl ?_))))))
     refine ops_val (yld_loadS 0 Tryz.isAgg38 Tryz.sizeOf38 rfl rfl rfl) rfl ?_
     refine ops_call (atom_c (Ax.right x) hok.right) rfl pf_nil (fun v _ h => by exact ⟨h.2.2.2.2.1.2.1, h.2.2.2.2.2.1, trivial⟩) rfl fun _ => ?_
     refine ops_val (yld_struct strt31 rfl rfl) rfl ?_
     refine ops_slit Tryz.runUnderlying25 Tryz.sizeOf31 Tryz.zeroValue31 rfl rfl rfl rfl rfl rfl fun b11 => ?_
     refine ops_call (add_c (Pc.mk 1 (Ax.disj x) [] (Con.atom (Ax.right x)) [] [] [] 0 0 0) (-1) (Con.rightP (-1) (Ax.left x) (ins (-1) (ments (-1) [(Ax.disj x), [33]] ([] : List Pc)) (Pc.mk 1 (Ax.disj x) [] (Con.atom (Ax.left x)) [] [] [] 0 0 0))) q9 hq9 (by omega)) rfl (pf_takeB pf_here (pf_takeB (pf_cons pf_here) (pf_takeB (pf_cons pf_here) (pf_cons pf_end)))) (fun _ _ _ => by exact trivial) rfl fun ⟨q10, hq10⟩ => ?_
     dsimp only
     have hb10 := ins_len (-1) (Con.rightP (-1) (Ax.left x) (ins (-1) (ments (-1) [(Ax.disj x), [33]] ([] : List Pc)) (Pc.mk 1 (Ax.disj x) [] (Con.atom (Ax.left x)) [] [] [] 0 0 0))) (Pc.mk 1 (Ax.disj x) [] (Con.atom (Ax.right x)) [] [] [] 0 0 0)
     refine ok_perm (@List.perm_append_comm _ _ [_]) ?_
     refine ops_nil (fin_next rfl (run_seq (run_region (ops_val (yld_move rfl) rfl (ops_val (yld_field Tryz.runUnderlying41 rfl rfl rfl Tryz.sizeOf38) rfl ?_)))))
     refine ops_val (yld_loadS 0 Tryz.isAgg38 Tryz.sizeOf38 rfl rfl rfl) rfl ?_
     refine ops_calld (right_c (kb := kb) (bk := bk) (bs := br) (frm := (-1)) _ (Ax.right x) (Nat.le_refl _) hok.right fr (ins (-1) (Con.rightP (-1) (Ax.left x) (ins (-1) (ments (-1) [(Ax.disj x), [33]] ([] : List Pc)) (Pc.mk 1 (Ax.disj x) [] (Con.atom (Ax.left x)) [] [] [] 0 0 0))) (Pc.mk 1 (Ax.disj x) [] (Con.atom (Ax.right x)) [] [] [] 0 0 0)) q10 hq10 (by omega)) rfl rfl (pf_takeB (pf_cons pf_here) (pf_takeB (pf_cons pf_here) (pf_cons pf_end))) (fun v _ h => by exact ⟨h.2.2.2.2.1.2.1, h.2.2.2.2.2.1, h.2.1, h.2.2.2.1, trivial⟩) rfl fun ⟨q11, hq11⟩ => ?_
     dsimp only
     have hb11 := Con.rightP_len (-1) _ (Ax.right x) (Nat.le_refl _) (ins (-1) (Con.rightP (-1) (Ax.left x) (ins (-1) (ments (-1) [(Ax.disj x), [33]] ([] : List Pc)) (Pc.mk 1 (Ax.disj x) [] (Con.atom (Ax.left x)) [] [] [] 0 0 0))) (Pc.mk 1 (Ax.disj x) [] (Con.atom (Ax.right x)) [] [] [] 0 0 0))
     refine ok_perm (@List.perm_append_comm _ _ [_]) ?_
     refine ops_nil (fin_next rfl (run_region (ops_val (yld_move rfl) rfl (ops_val (yld_move rfl) rfl (ops_calld (goal1_c (Ax.disj x) [33]) rfl rfl pf_nil (fun _ _ _ => by exact trivial) rfl fun _ => ?_)))))
     refine ops_slit Tryz.runUnderlying43 Tryz.sizeOf50 Tryz.zeroValue50 rfl rfl rfl rfl rfl rfl fun b12 => ?_
     refine ops_val (yld_assign rfl) rfl (ops_nil (fin_next rfl (run_seq (run_region (ops_val (yld_move rfl) rfl (ops_val (yld_nilck rfl) rfl ?_))))))
     refine ops_val (yld_field Tryz.runUnderlying74 rfl rfl rfl Tryz.sizeOf25) rfl ?_
     refine ops_val (yld_load 2 Tryz.isAgg25 rfl rfl rfl) rfl ?_
     refine ops_val (yld_move rfl) rfl (ops_val (yld_assign rfl) rfl (ops_val (yld_assign rfl) rfl (ops_val (yld_assign rfl) rfl (ops_nil (fin_next rfl (run_ret (ok_giveR (List.flatMap Fc.cells [(Fc.mk 1 (Ax.disj x) [33] [] 0 0)]) pf_here rfl ?_)))))))
     refine ok_giveRow hq11.row (pf_cons (pf_cons (pf_cons pf_end))) fun adP cpP hsvP hcP1 hcP2 => ?_
     have e : x.goalP = ((Con.rightP (-1) (Ax.right x) (ins (-1) (Con.rightP (-1) (Ax.left x) (ins (-1) (ments (-1) [(Ax.disj x), [33]] ([] : List Pc)) (Pc.mk 1 (Ax.disj x) [] (Con.atom (Ax.left x)) [] [] [] 0 0 0))) (Pc.mk 1 (Ax.disj x) [] (Con.atom (Ax.right x)) [] [] [] 0 0 0))), [(Fc.mk 1 (Ax.disj x) [33] [] 0 0)], 0) := by
      unfold Ax.goalP; rw [if_neg (by omega)]; repeat (first | rfl | (rw [if_pos (by omega)]) | (rw [if_neg (by omega)]))
     have hy : x.goalP.1.length ≤ cpP ∧ cpP ≤ maxLen ∧ x.goalP.2.1.length ≤ 1 ∧ 1 ≤ maxLen := by rw [e]; exact ⟨hcP1, hcP2, by simp, by decide⟩
     have hz : Value.tuple #[q11.sv, .slice (some ⟨b12, 0, none⟩) 1 1, .int .i64 0] = .tuple #[.slice adP x.goalP.1.length cpP, .slice (some ⟨b12, 0, none⟩) x.goalP.2.1.length 1, .int .i64 x.goalP.2.2] := by
      rw [e, hsvP] <;> rfl
     have hw1 : List.flatMap Pc.cells (Con.rightP (-1) (Ax.right x) (ins (-1) (Con.rightP (-1) (Ax.left x) (ins (-1) (ments (-1) [(Ax.disj x), [33]] ([] : List Pc)) (Pc.mk 1 (Ax.disj x) [] (Con.atom (Ax.left x)) [] [] [] 0 0 0))) (Pc.mk 1 (Ax.disj x) [] (Con.atom (Ax.right x)) [] [] [] 0 0 0))) = x.goalP.1.flatMap Pc.cells := by rw [e]
     have hw2 : List.flatMap Fc.cells [(Fc.mk 1 (Ax.disj x) [33] [] 0 0)] = x.goalP.2.1.flatMap Fc.cells := by rw [e]
     exact ret3 Tryz.results19 ⟨(adP, cpP, (some ⟨b12, 0, none⟩), 1), hy⟩ rfl rfl rfl hz pf_nil (fun v _ h => ⟨hw1 ▸ h.1, hw2 ▸ h.2.1, trivial⟩)
   ·
    replace hr3 := eq_of_beq hr3
    obtain ⟨fl, zl⟩ := Con.check_zero (G.left (by omega))
    obtain ⟨fr, zr⟩ := Con.check_zero (G.right (by omega))
    refine run_cond_t rfl (run_seq ?_)
    refine run_draw' (by kernel_rfl) ?_
    refine any_sq 4 [0, 1, 3, 4] (by kernel_rfl) (fun _ a b => ⟨a, b⟩) ?_
    refine sq_val rfl (yld_field Tryz.runUnderlying41 rfl rfl rfl Tryz.sizeOf38) rfl ?_
    refine sq_val rfl (yld_loadS 0 Tryz.isAgg38 Tryz.sizeOf38 rfl rfl rfl) rfl ?_
    refine sq_val rfl (yld_field Tryz.runUnderlying41 rfl rfl rfl Tryz.sizeOf38) rfl ?_
    refine sq_val rfl (yld_loadS 0 Tryz.isAgg38 Tryz.sizeOf38 rfl rfl rfl) rfl ?_
    refine sq_nil ?_
    refine any_one 2 rfl (by kernel_rfl) ?_
    refine ops_call (atom_c (Ax.left x) hok.left) rfl pf_nil (fun v _ h => by exact ⟨h.2.2.2.1.1, h.2.2.2.2.1, trivial⟩) rfl fun _ => ?_
    refine ops_nil (fin_inv rfl (any_next (fun _ a b => ⟨a, b⟩) ?_))
    refine any_one 5 rfl (by kernel_rfl) ?_
    refine ops_call (atom_c (Ax.right x) hok.right) rfl pf_nil (fun v _ h => by exact ⟨h.2.2.2.1.2.1, h.2.2.2.2.1, trivial⟩) rfl fun _ => ?_
    refine ops_nil (fin_inv rfl (any_next (fun _ a b => ⟨a, b⟩) ?_))
    refine any_sq 0 [6, 7] (by kernel_rfl) (fun _ a b => ⟨a, b⟩) ?_
    refine sq_val rfl (yld_assign rfl) rfl ?_
    refine sq_val rfl (yld_assign rfl) rfl ?_
    refine sq_nil ?_
    refine any_done (by kernel_rfl) ?_
    refine fin_next rfl (run_seq (run_region (ops_val (yld_move rfl) rfl (ops_val (yld_move rfl) rfl (ops_val (yld_move rfl) rfl (ops_slit Tryz.runUnderlying39 Tryz.sizeOf9 Tryz.zeroValue9 rfl rfl rfl rfl rfl rfl fun b13 => ?_))))))
    refine ok_giveR (List.flatMap strC [(Con.atom (Ax.left x)), (Con.atom (Ax.right x))]) pf_here rfl ?_
    refine ops_call (mention_c [(Con.atom (Ax.left x)), (Con.atom (Ax.right x))] (some ⟨b13, 0, none⟩) 2 (-1) ([] : List Pc) ⟨.slice none 0 0, bm0, #[], 0, []⟩ ⟨SRow.nil _ _, rfl, by simp⟩ (by simp) (by simp only [List.length_cons, List.length_nil]; omega)) rfl (pf_takeB (pf_cons pf_here) (pf_takeB (pf_cons pf_here) (pf_cons pf_end))) (fun v _ h => by exact ⟨h.1, trivial⟩) rfl fun ⟨q12, hq12⟩ => ?_
    dsimp only
    have hb12 := ments_len (-1) [(Con.atom (Ax.left x)), (Con.atom (Ax.right x))] ([] : List Pc)
    refine ok_perm (@List.perm_append_comm _ _ [_]) ?_
    simp only [List.length_cons, List.length_nil] at hb12
    refine ops_nil (fin_next rfl (run_seq (run_region (ops_val (yld_move rfl) rfl (ops_val (yld_field Tryz.runUnderlying41 rfl rfl rfl Tryz.sizeOf38) rfl ?_)))))
    refine ops_val (yld_loadS 0 Tryz.isAgg38 Tryz.sizeOf38 rfl rfl rfl) rfl ?_
    refine ops_calld (right_c (kb := kb) (bk := bk) (bs := br) (frm := (-1)) _ (Ax.left x) (Nat.le_refl _) hok.left fl (ments (-1) [(Con.atom (Ax.left x)), (Con.atom (Ax.right x))] ([] : List Pc)) q12 hq12 (by omega)) rfl rfl (pf_takeB (pf_cons pf_here) (pf_takeB (pf_cons pf_here) (pf_cons pf_end))) (fun v _ h => by exact ⟨h.2.2.2.2.1.1, h.2.2.2.2.2.1, h.2.1, h.2.2.2.1, trivial⟩) rfl fun ⟨q13, hq13⟩ => ?_
    dsimp only
    have hb13 := Con.rightP_len (-1) _ (Ax.left x) (Nat.le_refl _) (ments (-1) [(Con.atom (Ax.left x)), (Con.atom (Ax.right x))] ([] : List Pc))
    refine ok_perm (@List.perm_append_comm _ _ [_]) ?_
    refine ops_nil (fin_next rfl (run_seq (run_region (ops_val (yld_move rfl) rfl (ops_val (yld_field Tryz.runUnderlying41 rfl rfl rfl Tryz.sizeOf38) rfl ?_)))))
    refine ops_val (yld_loadS 0 Tryz.isAgg38 Tryz.sizeOf38 rfl rfl rfl) rfl ?_
    refine ops_calld (left_c (kb := kb) (bk := bk) (bs := bl) (frm := (-1)) _ (Ax.right x) (Nat.le_refl _) hok.right fr (Con.rightP (-1) (Ax.left x) (ments (-1) [(Con.atom (Ax.left x)), (Con.atom (Ax.right x))] ([] : List Pc))) q13 hq13 (by omega)) rfl rfl (pf_takeB (pf_cons pf_here) (pf_takeB (pf_cons pf_here) (pf_cons pf_end))) (fun v _ h => by exact ⟨h.2.2.2.2.1.2.1, h.2.2.2.2.2.1, h.2.1, h.2.2.1, trivial⟩) rfl fun ⟨q14, hq14⟩ => ?_
    dsimp only
    have hb14 := Con.leftP_len (-1) _ (Ax.right x) (Nat.le_refl _) (Con.rightP (-1) (Ax.left x) (ments (-1) [(Con.atom (Ax.left x)), (Con.atom (Ax.right x))] ([] : List Pc)))
    refine ok_perm (@List.perm_append_comm _ _ [_]) ?_
    refine ops_nil (fin_next rfl (run_seq (run_region (ops_val (yld_move rfl) rfl (ops_val (yld_move rfl) rfl (ops_val (yld_move rfl) rfl (ops_calld (goal1_c (Con.atom (Ax.left x)) (Con.atom (Ax.right x))) rfl rfl pf_nil (fun _ _ _ => by exact trivial) rfl fun _ => ?_)))))))
    refine ops_slit Tryz.runUnderlying43 Tryz.sizeOf50 Tryz.zeroValue50 rfl rfl rfl rfl rfl rfl fun b14 => ?_
    refine ops_val (yld_assign rfl) rfl (ops_nil (fin_next rfl (run_seq (run_region (ops_val (yld_field Tryz.runUnderlying41 rfl rfl rfl Tryz.sizeOf3) rfl ?_)))))
    refine ops_val (yld_load 1 Tryz.isAgg3 rfl rfl rfl) rfl ?_
    refine ops_valB (yld_eql rfl rfl) rfl fun r8 hr8 => ?_
    refine ops_nil (fin_next rfl ?_)
    cases r8
    ·
     replace hr8 := ne_of_beq_false hr8
     refine run_cond_f rfl (run_skip (fin_next rfl (run_seq (run_region (ops_val (yld_move rfl) rfl (ops_val (yld_nilck rfl) rfl ?_))))))
     refine ops_val (yld_field Tryz.runUnderlying74 rfl rfl rfl Tryz.sizeOf25) rfl ?_
     refine ops_val (yld_load 2 Tryz.isAgg25 rfl rfl rfl) rfl ?_
     refine ops_val (yld_move rfl) rfl (ops_val (yld_assign rfl) rfl (ops_val (yld_assign rfl) rfl (ops_val (yld_assign rfl) rfl (ops_nil (fin_next rfl (run_ret (ok_giveR (List.flatMap Fc.cells [(Fc.mk 1 (Con.atom (Ax.left x)) (Con.atom (Ax.right x)) [] 0 0)]) pf_here rfl ?_)))))))
     refine ok_giveRow hq14.row (pf_cons (pf_cons (pf_cons pf_end))) fun adP cpP hsvP hcP1 hcP2 => ?_
     have e : x.goalP = ((Con.leftP (-1) (Ax.right x) (Con.rightP (-1) (Ax.left x) (ments (-1) [(Con.atom (Ax.left x)), (Con.atom (Ax.right x))] ([] : List Pc)))), [(Fc.mk 1 (Con.atom (Ax.left x)) (Con.atom (Ax.right x)) [] 0 0)], 0) := by
      unfold Ax.goalP; rw [if_neg (by omega)]; repeat (first | rfl | (rw [if_pos (by omega)]) | (rw [if_neg (by omega)]))
     have hy : x.goalP.1.length ≤ cpP ∧ cpP ≤ maxLen ∧ x.goalP.2.1.length ≤ 1 ∧ 1 ≤ maxLen := by rw [e]; exact ⟨hcP1, hcP2, by simp, by decide⟩
     have hz : Value.tuple #[q14.sv, .slice (some ⟨b14, 0, none⟩) 1 1, .int .i64 0] = .tuple #[.slice adP x.goalP.1.length cpP, .slice (some ⟨b14, 0, none⟩) x.goalP.2.1.length 1, .int .i64 x.goalP.2.2] := by
      rw [e, hsvP] <;> rfl
     have hw1 : List.flatMap Pc.cells (Con.leftP (-1) (Ax.right x) (Con.rightP (-1) (Ax.left x) (ments (-1) [(Con.atom (Ax.left x)), (Con.atom (Ax.right x))] ([] : List Pc)))) = x.goalP.1.flatMap Pc.cells := by rw [e]
     have hw2 : List.flatMap Fc.cells [(Fc.mk 1 (Con.atom (Ax.left x)) (Con.atom (Ax.right x)) [] 0 0)] = x.goalP.2.1.flatMap Fc.cells := by rw [e]
     exact ret3 Tryz.results19 ⟨(adP, cpP, (some ⟨b14, 0, none⟩), 1), hy⟩ rfl rfl rfl hz pf_nil (fun v _ h => ⟨hw1 ▸ h.1, hw2 ▸ h.2.1, trivial⟩)
    ·
     replace hr8 := eq_of_beq hr8
     obtain ⟨fl, zl⟩ := Con.check_zero (G.left (by omega))
     obtain ⟨fr, zr⟩ := Con.check_zero (G.right (by omega))
     refine run_cond_t rfl (run_seq (run_region (ops_val (yld_move rfl) rfl (ops_val (yld_field Tryz.runUnderlying41 rfl rfl rfl Tryz.sizeOf38) rfl ?_))))
     refine ops_val (yld_loadS 1 Tryz.isAgg38 Tryz.sizeOf38 rfl rfl rfl) rfl ?_
     refine ops_calld (right_c (kb := kb) (bk := bk) (bs := br) (frm := (-1)) _ (Ax.right x) (Nat.le_refl _) hok.right fr (Con.leftP (-1) (Ax.right x) (Con.rightP (-1) (Ax.left x) (ments (-1) [(Con.atom (Ax.left x)), (Con.atom (Ax.right x))] ([] : List Pc)))) q14 hq14 (by omega)) rfl rfl (pf_takeB (pf_cons (pf_cons pf_here)) (pf_takeB (pf_cons (pf_cons pf_here)) (pf_cons (pf_cons pf_end)))) (fun v _ h => by exact ⟨h.2.2.2.2.1.2.1, h.2.2.2.2.2.1, h.2.1, h.2.2.2.1, trivial⟩) rfl fun ⟨q15, hq15⟩ => ?_
     dsimp only
     have hb15 := Con.rightP_len (-1) _ (Ax.right x) (Nat.le_refl _) (Con.leftP (-1) (Ax.right x) (Con.rightP (-1) (Ax.left x) (ments (-1) [(Con.atom (Ax.left x)), (Con.atom (Ax.right x))] ([] : List Pc))))
     refine ok_perm (@List.perm_append_comm _ _ [_, _]) ?_
     refine ops_nil (fin_next rfl (run_seq (run_region (ops_val (yld_move rfl) rfl (ops_val (yld_field Tryz.runUnderlying41 rfl rfl rfl Tryz.sizeOf38) rfl ?_)))))
     refine ops_val (yld_loadS 1 Tryz.isAgg38 Tryz.sizeOf38 rfl rfl rfl) rfl ?_
     refine ops_calld (left_c (kb := kb) (bk := bk) (bs := bl) (frm := (-1)) _ (Ax.left x) (Nat.le_refl _) hok.left fl (Con.rightP (-1) (Ax.right x) (Con.leftP (-1) (Ax.right x) (Con.rightP (-1) (Ax.left x) (ments (-1) [(Con.atom (Ax.left x)), (Con.atom (Ax.right x))] ([] : List Pc))))) q15 hq15 (by omega)) rfl rfl (pf_takeB (pf_cons (pf_cons pf_here)) (pf_takeB (pf_cons (pf_cons pf_here)) (pf_cons (pf_cons pf_end)))) (fun v _ h => by exact ⟨h.2.2.2.2.1.1, h.2.2.2.2.2.1, h.2.1, h.2.2.1, trivial⟩) rfl fun ⟨q16, hq16⟩ => ?_
     dsimp only
     have hb16 := Con.leftP_len (-1) _ (Ax.left x) (Nat.le_refl _) (Con.rightP (-1) (Ax.right x) (Con.leftP (-1) (Ax.right x) (Con.rightP (-1) (Ax.left x) (ments (-1) [(Con.atom (Ax.left x)), (Con.atom (Ax.right x))] ([] : List Pc)))))
     refine ok_perm (@List.perm_append_comm _ _ [_, _]) ?_
     refine ops_nil (fin_next rfl (run_region (ops_val (yld_move rfl) rfl (ops_val (yld_move rfl) rfl (ops_val (yld_move rfl) rfl (ops_val (yld_move rfl) rfl (ops_calld (goal1_c (Con.atom (Ax.right x)) (Con.atom (Ax.left x))) rfl rfl pf_nil (fun _ _ _ => by exact trivial) rfl fun _ => ?_)))))))
     refine ops_slit Tryz.runUnderlying43 Tryz.sizeOf50 Tryz.zeroValue50 rfl rfl rfl rfl rfl rfl fun b15 => ?_
     have hrow0 : SRow 50 6 (.slice (some ⟨b14, 0, none⟩) 1 1) 1 (Fc.cells (Fc.mk 1 (Con.atom (Ax.left x)) (Con.atom (Ax.right x)) [] 0 0)) [(b14, .cells (Fc.cells (Fc.mk 1 (Con.atom (Ax.left x)) (Con.atom (Ax.right x)) [] 0 0)).toArray 50 (0, 0))] := ⟨rfl, .inr ⟨b14, 1, _, rfl, rfl, by decide, by decide, rfl, rfl⟩⟩
     refine ops_append (news := Fc.cells (Fc.mk 1 (Con.atom (Ax.right x)) (Con.atom (Ax.left x)) [] 0 0)) eltF hrow0 rfl rfl (pf_cons pf_here) rfl (own_news 0 rfl) (one_all rfl) (by decide) (by decide) rfl fun svF HrF hrowF => ?_
     obtain ⟨gF, cpF, curF, rfl, rfl, hrF⟩ := hrowF.some (by decide)
     refine ops_val (yld_assign rfl) rfl (ops_nil (fin_next rfl (run_seq (run_region (ops_val (yld_move rfl) rfl (ops_val (yld_nilck rfl) rfl ?_))))))
     refine ops_val (yld_field Tryz.runUnderlying74 rfl rfl rfl Tryz.sizeOf25) rfl ?_
     refine ops_val (yld_load 3 Tryz.isAgg25 rfl rfl rfl) rfl ?_
     refine ops_val (yld_move rfl) rfl (ops_val (yld_assign rfl) rfl (ops_val (yld_assign rfl) rfl (ops_val (yld_assign rfl) rfl (ops_nil (fin_next rfl (run_ret (ok_giveRow hrowF pf_here fun adF cpG hsvF hcF1 hcF2 => ?_)))))))
     refine ok_giveRow hq16.row (pf_cons (pf_cons (pf_cons (pf_cons pf_end)))) fun adP cpP hsvP hcP1 hcP2 => ?_
     have e : x.goalP = ((Con.leftP (-1) (Ax.left x) (Con.rightP (-1) (Ax.right x) (Con.leftP (-1) (Ax.right x) (Con.rightP (-1) (Ax.left x) (ments (-1) [(Con.atom (Ax.left x)), (Con.atom (Ax.right x))] ([] : List Pc)))))), [⟨1, x.left.atom, x.right.atom, [], 0, 0⟩, ⟨1, x.right.atom, x.left.atom, [], 0, 0⟩], 0) := by
      unfold Ax.goalP; rw [if_neg (by omega)]; repeat (first | rfl | (rw [if_pos (by omega)]) | (rw [if_neg (by omega)]))
     have hy : x.goalP.1.length ≤ cpP ∧ cpP ≤ maxLen ∧ x.goalP.2.1.length ≤ cpG ∧ cpG ≤ maxLen := by rw [e]; exact ⟨hcP1, hcP2, hcF1, hcF2⟩
     have hz : Value.tuple #[q16.sv, .slice (some ⟨gF, 0, none⟩) 2 cpF, .int .i64 0] = .tuple #[.slice adP x.goalP.1.length cpP, .slice adF x.goalP.2.1.length cpG, .int .i64 x.goalP.2.2] := by
      rw [e, hsvP]; exact congrArg (fun z => Value.tuple #[_, z, _]) hsvF
     have hw1 : List.flatMap Pc.cells (Con.leftP (-1) (Ax.left x) (Con.rightP (-1) (Ax.right x) (Con.leftP (-1) (Ax.right x) (Con.rightP (-1) (Ax.left x) (ments (-1) [(Con.atom (Ax.left x)), (Con.atom (Ax.right x))] ([] : List Pc)))))) = x.goalP.1.flatMap Pc.cells := by rw [e]
     have hw2 : List.flatMap Fc.cells [⟨1, x.left.atom, x.right.atom, [], 0, 0⟩, ⟨1, x.right.atom, x.left.atom, [], 0, 0⟩] = x.goalP.2.1.flatMap Fc.cells := by rw [e]
     exact ret3 Tryz.results19 ⟨(adP, cpP, adF, cpG), hy⟩ rfl rfl rfl hz pf_nil (fun v _ h => ⟨hw1 ▸ h.1, hw2 ▸ h.2.1, trivial⟩)
  ·
   replace hr2 := eq_of_beq hr2
   obtain ⟨fl, zl⟩ := Con.check_zero (G.left (by omega))
   obtain ⟨fr, zr⟩ := Con.check_zero (G.right (by omega))
   refine run_cond_t rfl (run_skip (fin_next rfl (run_cond_t rfl (run_seq ?_))))
   refine run_draw' (by kernel_rfl) ?_
   refine any_sq 4 [0, 1, 3, 4] (by kernel_rfl) (fun _ a b => ⟨a, b⟩) ?_
   refine sq_val rfl (yld_field Tryz.runUnderlying41 rfl rfl rfl Tryz.sizeOf38) rfl ?_
   refine sq_val rfl (yld_loadS 0 Tryz.isAgg38 Tryz.sizeOf38 rfl rfl rfl) rfl ?_
   refine sq_val rfl (yld_field Tryz.runUnderlying41 rfl rfl rfl Tryz.sizeOf38) rfl ?_
   refine sq_val rfl (yld_loadS 0 Tryz.isAgg38 Tryz.sizeOf38 rfl rfl rfl) rfl ?_
   refine sq_nil ?_
   refine any_one 2 rfl (by kernel_rfl) ?_
   refine ops_call (atom_c (Ax.left x) hok.left) rfl pf_nil (fun v _ h => by exact ⟨h.2.2.2.1.1, h.2.2.2.2.1, trivial⟩) rfl fun _ => ?_
   refine ops_nil (fin_inv rfl (any_next (fun _ a b => ⟨a, b⟩) ?_))
   refine any_one 5 rfl (by kernel_rfl) ?_
   refine ops_call (atom_c (Ax.right x) hok.right) rfl pf_nil (fun v _ h => by exact ⟨h.2.2.2.1.2.1, h.2.2.2.2.1, trivial⟩) rfl fun _ => ?_
   refine ops_nil (fin_inv rfl (any_next (fun _ a b => ⟨a, b⟩) ?_))
   refine any_sq 0 [6, 7] (by kernel_rfl) (fun _ a b => ⟨a, b⟩) ?_
   refine sq_val rfl (yld_assign rfl) rfl ?_
   refine sq_val rfl (yld_assign rfl) rfl ?_
   refine sq_nil ?_
   refine any_done (by kernel_rfl) ?_
   refine fin_next rfl (run_seq (run_region (ops_val (yld_move rfl) rfl (ops_val (yld_move rfl) rfl (ops_val (yld_move rfl) rfl (ops_slit Tryz.runUnderlying39 Tryz.sizeOf9 Tryz.zeroValue9 rfl rfl rfl rfl rfl rfl fun b16 => ?_))))))
   refine ok_giveR (List.flatMap strC [(Con.atom (Ax.left x)), (Con.atom (Ax.right x))]) pf_here rfl ?_
   refine ops_call (mention_c [(Con.atom (Ax.left x)), (Con.atom (Ax.right x))] (some ⟨b16, 0, none⟩) 2 (-1) ([] : List Pc) ⟨.slice none 0 0, bm0, #[], 0, []⟩ ⟨SRow.nil _ _, rfl, by simp⟩ (by simp) (by simp only [List.length_cons, List.length_nil]; omega)) rfl (pf_takeB (pf_cons pf_here) (pf_takeB (pf_cons pf_here) (pf_cons pf_end))) (fun v _ h => by exact ⟨h.1, trivial⟩) rfl fun ⟨q17, hq17⟩ => ?_
   dsimp only
   have hb17 := ments_len (-1) [(Con.atom (Ax.left x)), (Con.atom (Ax.right x))] ([] : List Pc)
   refine ok_perm (@List.perm_append_comm _ _ [_]) ?_
   simp only [List.length_cons, List.length_nil] at hb17
   refine ops_nil (fin_next rfl (run_seq (run_region (ops_val (yld_move rfl) rfl (ops_val (yld_field Tryz.runUnderlying41 rfl rfl rfl Tryz.sizeOf38) rfl ?_)))))
   refine ops_val (yld_loadS 0 Tryz.isAgg38 Tryz.sizeOf38 rfl rfl rfl) rfl ?_
   refine ops_calld (right_c (kb := kb) (bk := bk) (bs := br) (frm := (-1)) _ (Ax.left x) (Nat.le_refl _) hok.left fl (ments (-1) [(Con.atom (Ax.left x)), (Con.atom (Ax.right x))] ([] : List Pc)) q17 hq17 (by omega)) rfl rfl (pf_takeB (pf_cons pf_here) (pf_takeB (pf_cons pf_here) (pf_cons pf_end))) (fun v _ h => by exact ⟨h.2.2.2.2.1.1, h.2.2.2.2.2.1, h.2.1, h.2.2.2.1, trivial⟩) rfl fun ⟨q18, hq18⟩ => ?_
   dsimp only
   have hb18 := Con.rightP_len (-1) _ (Ax.left x) (Nat.le_refl _) (ments (-1) [(Con.atom (Ax.left x)), (Con.atom (Ax.right x))] ([] : List Pc))
   refine ok_perm (@List.perm_append_comm _ _ [_]) ?_
   refine ops_nil (fin_next rfl (run_seq (run_region (ops_val (yld_move rfl) rfl (ops_val (yld_field Tryz.runUnderlying41 rfl rfl rfl Tryz.sizeOf38) rfl ?_)))))
   refine ops_val (yld_loadS 0 Tryz.isAgg38 Tryz.sizeOf38 rfl rfl rfl) rfl ?_
   refine ops_calld (left_c (kb := kb) (bk := bk) (bs := bl) (frm := (-1)) _ (Ax.right x) (Nat.le_refl _) hok.right fr (Con.rightP (-1) (Ax.left x) (ments (-1) [(Con.atom (Ax.left x)), (Con.atom (Ax.right x))] ([] : List Pc))) q18 hq18 (by omega)) rfl rfl (pf_takeB (pf_cons pf_here) (pf_takeB (pf_cons pf_here) (pf_cons pf_end))) (fun v _ h => by exact ⟨h.2.2.2.2.1.2.1, h.2.2.2.2.2.1, h.2.1, h.2.2.1, trivial⟩) rfl fun ⟨q19, hq19⟩ => ?_
   dsimp only
   have hb19 := Con.leftP_len (-1) _ (Ax.right x) (Nat.le_refl _) (Con.rightP (-1) (Ax.left x) (ments (-1) [(Con.atom (Ax.left x)), (Con.atom (Ax.right x))] ([] : List Pc)))
   refine ok_perm (@List.perm_append_comm _ _ [_]) ?_
   refine ops_nil (fin_next rfl (run_seq (run_region (ops_val (yld_move rfl) rfl (ops_val (yld_move rfl) rfl (ops_val (yld_move rfl) rfl (ops_calld (goal1_c (Con.atom (Ax.left x)) (Con.atom (Ax.right x))) rfl rfl pf_nil (fun _ _ _ => by exact trivial) rfl fun _ => ?_)))))))
   refine ops_slit Tryz.runUnderlying43 Tryz.sizeOf50 Tryz.zeroValue50 rfl rfl rfl rfl rfl rfl fun b17 => ?_
   refine ops_val (yld_assign rfl) rfl (ops_nil (fin_next rfl (run_seq (run_region (ops_val (yld_field Tryz.runUnderlying41 rfl rfl rfl Tryz.sizeOf3) rfl ?_)))))
   refine ops_val (yld_load 1 Tryz.isAgg3 rfl rfl rfl) rfl ?_
   refine ops_valB (yld_eql rfl rfl) rfl fun r9 hr9 => ?_
   refine ops_nil (fin_next rfl ?_)
   cases r9
   ·
    replace hr9 := ne_of_beq_false hr9
    refine run_cond_f rfl (run_skip (fin_next rfl (run_seq (run_region (ops_val (yld_move rfl) rfl (ops_val (yld_nilck rfl) rfl ?_))))))
    refine ops_val (yld_field Tryz.runUnderlying74 rfl rfl rfl Tryz.sizeOf25) rfl ?_
    refine ops_val (yld_load 2 Tryz.isAgg25 rfl rfl rfl) rfl ?_
    refine ops_val (yld_move rfl) rfl (ops_val (yld_assign rfl) rfl (ops_val (yld_assign rfl) rfl (ops_val (yld_assign rfl) rfl (ops_nil (fin_next rfl (run_ret (ok_giveR (List.flatMap Fc.cells [(Fc.mk 1 (Con.atom (Ax.left x)) (Con.atom (Ax.right x)) [] 0 0)]) pf_here rfl ?_)))))))
    refine ok_giveRow hq19.row (pf_cons (pf_cons (pf_cons pf_end))) fun adP cpP hsvP hcP1 hcP2 => ?_
    have e : x.goalP = ((Con.leftP (-1) (Ax.right x) (Con.rightP (-1) (Ax.left x) (ments (-1) [(Con.atom (Ax.left x)), (Con.atom (Ax.right x))] ([] : List Pc)))), [(Fc.mk 1 (Con.atom (Ax.left x)) (Con.atom (Ax.right x)) [] 0 0)], 0) := by
     unfold Ax.goalP; rw [if_neg (by omega)]; repeat (first | rfl | (rw [if_pos (by omega)]) | (rw [if_neg (by omega)]))
    have hy : x.goalP.1.length ≤ cpP ∧ cpP ≤ maxLen ∧ x.goalP.2.1.length ≤ 1 ∧ 1 ≤ maxLen := by rw [e]; exact ⟨hcP1, hcP2, by simp, by decide⟩
    have hz : Value.tuple #[q19.sv, .slice (some ⟨b17, 0, none⟩) 1 1, .int .i64 0] = .tuple #[.slice adP x.goalP.1.length cpP, .slice (some ⟨b17, 0, none⟩) x.goalP.2.1.length 1, .int .i64 x.goalP.2.2] := by
     rw [e, hsvP] <;> rfl
    have hw1 : List.flatMap Pc.cells (Con.leftP (-1) (Ax.right x) (Con.rightP (-1) (Ax.left x) (ments (-1) [(Con.atom (Ax.left x)), (Con.atom (Ax.right x))] ([] : List Pc)))) = x.goalP.1.flatMap Pc.cells := by rw [e]
    have hw2 : List.flatMap Fc.cells [(Fc.mk 1 (Con.atom (Ax.left x)) (Con.atom (Ax.right x)) [] 0 0)] = x.goalP.2.1.flatMap Fc.cells := by rw [e]
    exact ret3 Tryz.results19 ⟨(adP, cpP, (some ⟨b17, 0, none⟩), 1), hy⟩ rfl rfl rfl hz pf_nil (fun v _ h => ⟨hw1 ▸ h.1, hw2 ▸ h.2.1, trivial⟩)
   ·
    replace hr9 := eq_of_beq hr9
    exfalso; omega
 ·
  replace hr1 := ne_of_bne hr1
  refine run_cond_t rfl (run_seq (run_region (ops_val (yld_move rfl) rfl (ops_val (yld_assign rfl) rfl (ops_val (yld_assign rfl) rfl (ops_val (yld_assign rfl) rfl (ops_nil ?_)))))))
  refine fin_next rfl (run_ret ?_)
  have e : x.goalP = ([], [], (Ax.check x)) := by unfold Ax.goalP; rw [if_pos (by assumption)]
  have hy : x.goalP.1.length ≤ 0 ∧ 0 ≤ maxLen ∧ x.goalP.2.1.length ≤ 0 ∧ 0 ≤ maxLen := by rw [e]; simp
  have hz : Value.tuple #[.slice none 0 0, .slice none 0 0, .int .i64 (Ax.check x)] = .tuple #[.slice none x.goalP.1.length 0, .slice none x.goalP.2.1.length 0, .int .i64 x.goalP.2.2] := by rw [e] <;> rfl
  have hw1 : x.goalP.1.flatMap Pc.cells = [] := by rw [e]; rfl
  have hw2 : x.goalP.2.1.flatMap Fc.cells = [] := by rw [e]; rfl
  exact ret3 Tryz.results19 ⟨(none, 0, none, 0), hy⟩ rfl rfl rfl hz pf_nil (fun v _ h => ⟨.inl hw1, .inl hw2, trivial⟩)

end Go.Proofs.YtoafjmalfclpoaaGreatDoor
