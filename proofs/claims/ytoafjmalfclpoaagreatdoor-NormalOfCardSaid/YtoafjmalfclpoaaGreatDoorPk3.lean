/-
  Part of the proofs over this seat: the small logic, the data, the contracts of functions (no condition).
-/
import Derived.Test.YtoafjmalfclpoaaGreatDoorPk2
import Derived.Test.YtoafjmalfclpoaaGreatDoorPk1
set_option linter.unusedVariables false
set_option linter.unusedSimpArgs false
set_option linter.unusedSectionVars false
/-
  My own contracts.
-/
namespace Go.Proofs.YtoafjmalfclpoaaGreatDoor
open Go Go.Sx Go.Proofs
set_option linter.unusedVariables false
attribute [local irreducible] Code.wp wpList wpAnyH

open Go.Vs
theorem checkFields_c (c : Con) (hok : c.ok) : Tri Tryz.prog 88 #[c.val] [] [tabs] (fun _ : Unit => .int .i64 c.fieldErr) (fun _ => []) (fun _ => []) := by
  obtain ⟨k, nm, lo, hi, ad, cap, ps⟩ := c
  have hlen := Con.ok_len hok
  simp only [Con.parts, Con.cap] at hlen
  refine tri_of_body Tryz.func88 rfl rfl Tryz.ntmps88 rfl fun v0 => ?_
  refine run_seq ?_
  refine run_region ?_
  refine ops_box rfl rfl fun b1 => ?_
  refine ops_val (yld_assign rfl) rfl ?_
  refine ops_nil ?_
  refine fin_next rfl ?_
  refine run_seq ?_
  refine run_seq ?_
  refine run_region ?_
  refine ops_val (yld_field Tryz.runUnderlying38 rfl rfl rfl Tryz.sizeOf3) rfl ?_
  refine ops_val (yld_load 0 Tryz.isAgg3 rfl rfl rfl) rfl ?_
  refine ops_valB (yld_lss rfl rfl) rfl fun r1 hr1 => ?_
  refine ops_val (yld_move rfl) rfl ?_
  refine ops_cut 4 ((decide (k < 1)) || (decide (7 < k))) (fun r => [(0, .agg #[.int .i64 k, str nm, .int .i64 lo, .int .i64 hi, .slice ad ps.length cap]), (1, .pointer (some ⟨b1, 0, none⟩)), (2, .int .i64 0), (11, .bool r)]) ?_ fun r2 hr2 => ?_
  · skip
    cases r1
    · skip
      have qr2 := hr1
      replace hr1 := of_decide_eq_false hr1
      try dsimp only [Con.kind, Con.parts, Con.name, Con.lo, Con.hi, Con.cap, Con.ad] at hr1
      refine ops_yes rfl rfl ?_
      refine ops_val (yld_field Tryz.runUnderlying38 rfl rfl rfl Tryz.sizeOf3) rfl ?_
      refine ops_yes rfl rfl ?_
      refine ops_val (yld_load 0 Tryz.isAgg3 rfl rfl rfl) rfl ?_
      refine ops_yes rfl rfl ?_
      refine ops_valB (yld_gtr rfl rfl) rfl fun r3 hr3 => ?_
      refine ops_val (yld_pick_f rfl rfl) rfl ?_
      refine ops_nil ?_
      refine fin_inv rfl ?_
      exact met ⟨rfl, rfl, rfl, (get_bool rfl (jof qr2 hr3)), trivial⟩
    · skip
      have qr2 := hr1
      replace hr1 := of_decide_eq_true hr1
      try dsimp only [Con.kind, Con.parts, Con.name, Con.lo, Con.hi, Con.cap, Con.ad] at hr1
      refine ops_no rfl rfl rfl rfl ?_
      refine ops_no rfl rfl rfl rfl ?_
      refine ops_no rfl rfl rfl rfl ?_
      refine ops_val (yld_pick_t rfl rfl) rfl ?_
      refine ops_nil ?_
      refine fin_inv rfl ?_
      exact met ⟨rfl, rfl, rfl, (get_bool rfl (jot qr2)), trivial⟩
  · skip
    refine ops_nil ?_
    refine fin_next rfl ?_
    cases r2
    · skip
      simp at hr2
      try dsimp only [Con.kind, Con.parts, Con.name, Con.lo, Con.hi, Con.cap, Con.ad] at hr2
      obtain ⟨x, hx⟩ : ∃ x, needL[k.toNat]? = some x := ⟨_, List.getElem?_eq_getElem (show k.toNat < 8 by omega)⟩
      have hnd : nd k = x := by simp [nd, hx]
      obtain ⟨x1, x2, x3, xb⟩ := x
      refine run_cond_f rfl ?_
      refine run_skip ?_
      refine fin_next rfl ?_
      refine run_seq ?_
      refine run_region ?_
      refine ops_val (yld_field Tryz.runUnderlying38 rfl rfl rfl Tryz.sizeOf3) rfl ?_
      refine ops_val (yld_load 0 Tryz.isAgg3 rfl rfl rfl) rfl ?_
      refine ops_val (yld_indexA Tryz.runUnderlying160 Tryz.sizeOf159 rfl rfl (by show (0 : Int) ≤ k; omega) (by show k < (8 : Int); omega)) rfl ?_
      refine ops_val (yld_loadRS (ad := some ⟨2, 0, none⟩) (k := k.toNat * 4) (us := needC (x1, x2, x3, xb)) Tryz.isAgg159 Tryz.sizeOf159 rfl (fun v _ h => h.1.1) (needC_len _) (fun j y hj => by rw [fm_get needC 4 needC_len needL k.toNat j _ hx (by have := (List.getElem?_eq_some_iff.1 hj).1; rwa [needC_len] at this)]; exact hj)) rfl ?_
      refine ops_alloc Tryz.zeroValue159 rfl fun b2 => ?_
      refine ops_store 0 Tryz.sizeOf159 rfl rfl rfl rfl rfl rfl ?_
      refine ops_nil ?_
      refine fin_next rfl ?_
      refine run_seq ?_
      refine run_seq ?_
      refine run_region ?_
      refine ops_val (yld_field Tryz.runUnderlying38 rfl rfl rfl Tryz.sizeOf36) rfl ?_
      refine ops_val (yld_load 1 Tryz.isAgg36 rfl rfl rfl) rfl ?_
      refine ops_val (yld_lenS Tryz.runUnderlying36 rfl) rfl ?_
      refine ops_val (yld_field Tryz.runUnderlying159 rfl rfl rfl Tryz.sizeOf3) rfl ?_
      refine ops_val (yld_load 0 Tryz.isAgg3 rfl rfl rfl) rfl ?_
      refine ops_valB (yld_lss rfl rfl) rfl fun r4 hr4 => ?_
      refine ops_val (yld_move rfl) rfl ?_
      refine ops_cut 7 ((decide ((ps.length : Int) < x2)) || (decide (x3 < (ps.length : Int)))) (fun r => [(0, .agg #[.int .i64 k, str nm, .int .i64 lo, .int .i64 hi, .slice ad ps.length cap]), (1, .pointer (some ⟨b1, 0, none⟩)), (2, .int .i64 0), (11, .bool false), (12, .pointer (some ⟨b1, 0, none⟩)), (13, .int .i64 k), (14, .pointer (some (rad (some ⟨2, 0, none⟩) (k.toNat * 4)))), (15, .agg #[.int .i64 x1, .int .i64 x2, .int .i64 x3, .bool xb]), (3, .pointer (some ⟨b2, 0, none⟩)), (29, .bool r)]) ?_ fun r5 hr5 => ?_
      · skip
        cases r4
        · skip
          have qr5 := hr4
          replace hr4 := of_decide_eq_false hr4
          try dsimp only [Con.kind, Con.parts, Con.name, Con.lo, Con.hi, Con.cap, Con.ad] at hr4
          refine ops_yes rfl rfl ?_
          refine ops_val (yld_field Tryz.runUnderlying38 rfl rfl rfl Tryz.sizeOf36) rfl ?_
          refine ops_yes rfl rfl ?_
          refine ops_val (yld_load 1 Tryz.isAgg36 rfl rfl rfl) rfl ?_
          refine ops_yes rfl rfl ?_
          refine ops_val (yld_lenS Tryz.runUnderlying36 rfl) rfl ?_
          refine ops_yes rfl rfl ?_
          refine ops_val (yld_field Tryz.runUnderlying159 rfl rfl rfl Tryz.sizeOf3) rfl ?_
          refine ops_yes rfl rfl ?_
          refine ops_val (yld_load 0 Tryz.isAgg3 rfl rfl rfl) rfl ?_
          refine ops_yes rfl rfl ?_
          refine ops_valB (yld_gtr rfl rfl) rfl fun r6 hr6 => ?_
          refine ops_val (yld_pick_f rfl rfl) rfl ?_
          refine ops_nil ?_
          refine fin_inv rfl ?_
          exact met ⟨rfl, rfl, rfl, rfl, rfl, rfl, rfl, rfl, rfl, (get_bool rfl (jof qr5 hr6)), trivial⟩
        · skip
          have qr5 := hr4
          replace hr4 := of_decide_eq_true hr4
          try dsimp only [Con.kind, Con.parts, Con.name, Con.lo, Con.hi, Con.cap, Con.ad] at hr4
          refine ops_no rfl rfl rfl rfl ?_
          refine ops_no rfl rfl rfl rfl ?_
          refine ops_no rfl rfl rfl rfl ?_
          refine ops_no rfl rfl rfl rfl ?_
          refine ops_no rfl rfl rfl rfl ?_
          refine ops_no rfl rfl rfl rfl ?_
          refine ops_val (yld_pick_t rfl rfl) rfl ?_
          refine ops_nil ?_
          refine fin_inv rfl ?_
          exact met ⟨rfl, rfl, rfl, rfl, rfl, rfl, rfl, rfl, rfl, (get_bool rfl (jot qr5)), trivial⟩
      · skip
        refine ops_val (yld_move rfl) rfl ?_
        refine ops_cut 9 ((((decide ((ps.length : Int) < x2)) || (decide (x3 < (ps.length : Int))))) || (((x1 == 0) && (nm != [])))) (fun r => [(0, .agg #[.int .i64 k, str nm, .int .i64 lo, .int .i64 hi, .slice ad ps.length cap]), (1, .pointer (some ⟨b1, 0, none⟩)), (2, .int .i64 0), (11, .bool false), (12, .pointer (some ⟨b1, 0, none⟩)), (13, .int .i64 k), (14, .pointer (some (rad (some ⟨2, 0, none⟩) (k.toNat * 4)))), (15, .agg #[.int .i64 x1, .int .i64 x2, .int .i64 x3, .bool xb]), (3, .pointer (some ⟨b2, 0, none⟩)), (39, .bool r)]) ?_ fun r7 hr7 => ?_
        · skip
          cases r5
          · skip
            have qr7 := hr5
            simp at hr5
            try dsimp only [Con.kind, Con.parts, Con.name, Con.lo, Con.hi, Con.cap, Con.ad] at hr5
            refine ops_yes rfl rfl ?_
            refine ops_val (yld_field Tryz.runUnderlying159 rfl rfl rfl Tryz.sizeOf3) rfl ?_
            refine ops_yes rfl rfl ?_
            refine ops_val (yld_load 0 Tryz.isAgg3 rfl rfl rfl) rfl ?_
            refine ops_yes rfl rfl ?_
            refine ops_valB (yld_eql rfl rfl) rfl fun r8 hr8 => ?_
            refine ops_yes rfl rfl ?_
            refine ops_val (yld_move rfl) rfl ?_
            refine ops_cut 4 ((x1 == 0) && (nm != [])) (fun r => [(0, .agg #[.int .i64 k, str nm, .int .i64 lo, .int .i64 hi, .slice ad ps.length cap]), (1, .pointer (some ⟨b1, 0, none⟩)), (2, .int .i64 0), (11, .bool false), (12, .pointer (some ⟨b1, 0, none⟩)), (13, .int .i64 k), (14, .pointer (some (rad (some ⟨2, 0, none⟩) (k.toNat * 4)))), (15, .agg #[.int .i64 x1, .int .i64 x2, .int .i64 x3, .bool xb]), (3, .pointer (some ⟨b2, 0, none⟩)), (30, .bool false), (38, .bool r)]) ?_ fun r9 hr9 => ?_
            · skip
              cases r8
              · skip
                have qr9 := hr8
                replace hr8 := ne_of_beq_false hr8
                try dsimp only [Con.kind, Con.parts, Con.name, Con.lo, Con.hi, Con.cap, Con.ad] at hr8
                refine ops_no rfl rfl rfl rfl ?_
                refine ops_no rfl rfl rfl rfl ?_
                refine ops_no rfl rfl rfl rfl ?_
                refine ops_yes rfl rfl ?_
                refine ops_val (yld_pick_f rfl rfl) rfl ?_
                refine ops_nil ?_
                refine fin_inv rfl ?_
                exact met ⟨rfl, rfl, rfl, rfl, rfl, rfl, rfl, rfl, rfl, rfl, (get_bool rfl (jaf qr9)), trivial⟩
              · skip
                have qr9 := hr8
                replace hr8 := eq_of_beq hr8
                try dsimp only [Con.kind, Con.parts, Con.name, Con.lo, Con.hi, Con.cap, Con.ad] at hr8
                refine ops_yes rfl rfl ?_
                refine ops_val (yld_field Tryz.runUnderlying38 rfl rfl rfl Tryz.sizeOf9) rfl ?_
                refine ops_yes rfl rfl ?_
                refine ops_val (yld_load 1 Tryz.isAgg9 rfl rfl rfl) rfl ?_
                refine ops_yes rfl rfl ?_
                refine ops_valB (yld_sneq rfl rfl) rfl fun r10 hr10 => ?_
                refine ops_yes rfl rfl ?_
                refine ops_val (yld_pick_t rfl rfl) rfl ?_
                refine ops_nil ?_
                refine fin_inv rfl ?_
                exact met ⟨rfl, rfl, rfl, rfl, rfl, rfl, rfl, rfl, rfl, rfl, (get_bool rfl (jat qr9 hr10)), trivial⟩
            · skip
              refine ops_val (yld_pick_f rfl rfl) rfl ?_
              refine ops_nil ?_
              refine fin_inv rfl ?_
              exact met ⟨rfl, rfl, rfl, rfl, rfl, rfl, rfl, rfl, rfl, (get_bool rfl (jof qr7 hr9)), trivial⟩
          · skip
            have qr7 := hr5
            simp at hr5
            try dsimp only [Con.kind, Con.parts, Con.name, Con.lo, Con.hi, Con.cap, Con.ad] at hr5
            refine ops_no rfl rfl rfl rfl ?_
            refine ops_no rfl rfl rfl rfl ?_
            refine ops_no rfl rfl rfl rfl ?_
            refine ops_no rfl rfl rfl rfl ?_
            refine ops_no rfl rfl rfl rfl ?_
            refine ops_no rfl rfl rfl rfl ?_
            refine ops_no rfl rfl rfl rfl ?_
            refine ops_no rfl rfl rfl rfl ?_
            refine ops_val (yld_pick_t rfl rfl) rfl ?_
            refine ops_nil ?_
            refine fin_inv rfl ?_
            exact met ⟨rfl, rfl, rfl, rfl, rfl, rfl, rfl, rfl, rfl, (get_bool rfl (jot qr7)), trivial⟩
        · skip
          refine ops_nil ?_
          refine fin_next rfl ?_
          cases r7
          · skip
            simp at hr7
            try dsimp only [Con.kind, Con.parts, Con.name, Con.lo, Con.hi, Con.cap, Con.ad] at hr7
            refine run_cond_f rfl ?_
            refine run_skip ?_
            refine fin_next rfl ?_
            refine run_seq ?_
            refine run_seq ?_
            refine run_region ?_
            refine ops_val (yld_field Tryz.runUnderlying159 rfl rfl rfl Tryz.sizeOf4) rfl ?_
            refine ops_val (yld_load 0 Tryz.isAgg4 rfl rfl rfl) rfl ?_
            refine ops_nil ?_
            refine fin_next rfl ?_
            cases xb
            · skip
              try dsimp only [Con.kind, Con.parts, Con.name, Con.lo, Con.hi, Con.cap, Con.ad] at hxb
              refine run_cond_f rfl ?_
              refine run_seq ?_
              refine run_region ?_
              refine ops_val (yld_field Tryz.runUnderlying38 rfl rfl rfl Tryz.sizeOf3) rfl ?_
              refine ops_val (yld_load 1 Tryz.isAgg3 rfl rfl rfl) rfl ?_
              refine ops_valB (yld_neq rfl rfl) rfl fun r11 hr11 => ?_
              refine ops_val (yld_move rfl) rfl ?_
              refine ops_cut 4 ((lo != 0) || (hi != 0)) (fun r => [(0, .agg #[.int .i64 k, str nm, .int .i64 lo, .int .i64 hi, .slice ad ps.length cap]), (1, .pointer (some ⟨b1, 0, none⟩)), (2, .int .i64 0), (11, .bool false), (12, .pointer (some ⟨b1, 0, none⟩)), (13, .int .i64 k), (14, .pointer (some (rad (some ⟨2, 0, none⟩) (k.toNat * 4)))), (15, .agg #[.int .i64 x1, .int .i64 x2, .int .i64 x3, .bool false]), (3, .pointer (some ⟨b2, 0, none⟩)), (39, .bool false), (40, .pointer (some ⟨b2, 3, none⟩)), (41, .bool false), (64, .bool r)]) ?_ fun r12 hr12 => ?_
              · skip
                cases r11
                · skip
                  have qr12 := hr11
                  replace hr11 := eq_of_bne hr11
                  try dsimp only [Con.kind, Con.parts, Con.name, Con.lo, Con.hi, Con.cap, Con.ad] at hr11
                  refine ops_yes rfl rfl ?_
                  refine ops_val (yld_field Tryz.runUnderlying38 rfl rfl rfl Tryz.sizeOf3) rfl ?_
                  refine ops_yes rfl rfl ?_
                  refine ops_val (yld_load 1 Tryz.isAgg3 rfl rfl rfl) rfl ?_
                  refine ops_yes rfl rfl ?_
                  refine ops_valB (yld_neq rfl rfl) rfl fun r13 hr13 => ?_
                  refine ops_val (yld_pick_f rfl rfl) rfl ?_
                  refine ops_nil ?_
                  refine fin_inv rfl ?_
                  exact met ⟨rfl, rfl, rfl, rfl, rfl, rfl, rfl, rfl, rfl, rfl, rfl, rfl, (get_bool rfl (jof qr12 hr13)), trivial⟩
                · skip
                  have qr12 := hr11
                  replace hr11 := ne_of_bne hr11
                  try dsimp only [Con.kind, Con.parts, Con.name, Con.lo, Con.hi, Con.cap, Con.ad] at hr11
                  refine ops_no rfl rfl rfl rfl ?_
                  refine ops_no rfl rfl rfl rfl ?_
                  refine ops_no rfl rfl rfl rfl ?_
                  refine ops_val (yld_pick_t rfl rfl) rfl ?_
                  refine ops_nil ?_
                  refine fin_inv rfl ?_
                  exact met ⟨rfl, rfl, rfl, rfl, rfl, rfl, rfl, rfl, rfl, rfl, rfl, rfl, (get_bool rfl (jot qr12)), trivial⟩
              · skip
                refine ops_nil ?_
                refine fin_next rfl ?_
                cases r12
                · skip
                  simp at hr12
                  try dsimp only [Con.kind, Con.parts, Con.name, Con.lo, Con.hi, Con.cap, Con.ad] at hr12
                  refine run_cond_f rfl ?_
                  refine run_skip ?_
                  refine fin_next rfl ?_
                  refine run_seq ?_
                  refine run_seq ?_
                  refine run_region ?_
                  refine ops_val (yld_field Tryz.runUnderlying159 rfl rfl rfl Tryz.sizeOf3) rfl ?_
                  refine ops_val (yld_load 0 Tryz.isAgg3 rfl rfl rfl) rfl ?_
                  refine ops_valB (yld_eql rfl rfl) rfl fun r14 hr14 => ?_
                  refine ops_val (yld_move rfl) rfl ?_
                  refine ops_cut 4 ((x1 == 0) || (plainS nm)) (fun r => [(0, .agg #[.int .i64 k, str nm, .int .i64 lo, .int .i64 hi, .slice ad ps.length cap]), (1, .pointer (some ⟨b1, 0, none⟩)), (2, .int .i64 0), (11, .bool false), (12, .pointer (some ⟨b1, 0, none⟩)), (13, .int .i64 k), (14, .pointer (some (rad (some ⟨2, 0, none⟩) (k.toNat * 4)))), (15, .agg #[.int .i64 x1, .int .i64 x2, .int .i64 x3, .bool false]), (3, .pointer (some ⟨b2, 0, none⟩)), (39, .bool false), (40, .pointer (some ⟨b2, 3, none⟩)), (41, .bool false), (64, .bool false), (72, .bool r)]) ?_ fun r15 hr15 => ?_
                  · skip
                    cases r14
                    · skip
                      have qr15 := hr14
                      replace hr14 := ne_of_beq_false hr14
                      try dsimp only [Con.kind, Con.parts, Con.name, Con.lo, Con.hi, Con.cap, Con.ad] at hr14
                      refine ops_yes rfl rfl ?_
                      refine ops_val (yld_field Tryz.runUnderlying38 rfl rfl rfl Tryz.sizeOf9) rfl ?_
                      refine ops_yes rfl rfl ?_
                      refine ops_val (yld_load 1 Tryz.isAgg9 rfl rfl rfl) rfl ?_
                      refine ops_yes rfl rfl ?_
                      refine ops_callB (isPlain_c nm) rfl (.refl _) (fun _ _ _ => trivial) rfl fun r16 hr16 => ?_
                      refine ops_val (yld_pick_f rfl rfl) rfl ?_
                      refine ops_nil ?_
                      refine fin_inv rfl ?_
                      exact met ⟨rfl, rfl, rfl, rfl, rfl, rfl, rfl, rfl, rfl, rfl, rfl, rfl, rfl, (get_bool rfl (jof qr15 hr16)), trivial⟩
                    · skip
                      have qr15 := hr14
                      replace hr14 := eq_of_beq hr14
                      try dsimp only [Con.kind, Con.parts, Con.name, Con.lo, Con.hi, Con.cap, Con.ad] at hr14
                      refine ops_no rfl rfl rfl rfl ?_
                      refine ops_no rfl rfl rfl rfl ?_
                      refine ops_no rfl rfl rfl rfl ?_
                      refine ops_val (yld_pick_t rfl rfl) rfl ?_
                      refine ops_nil ?_
                      refine fin_inv rfl ?_
                      exact met ⟨rfl, rfl, rfl, rfl, rfl, rfl, rfl, rfl, rfl, rfl, rfl, rfl, rfl, (get_bool rfl (jot qr15)), trivial⟩
                  · skip
                    refine ops_val (yld_move rfl) rfl ?_
                    refine ops_cut 9 ((((x1 == 0) || (plainS nm))) || (((x1 == 2) && (reservedS nm)))) (fun r => [(0, .agg #[.int .i64 k, str nm, .int .i64 lo, .int .i64 hi, .slice ad ps.length cap]), (1, .pointer (some ⟨b1, 0, none⟩)), (2, .int .i64 0), (11, .bool false), (12, .pointer (some ⟨b1, 0, none⟩)), (13, .int .i64 k), (14, .pointer (some (rad (some ⟨2, 0, none⟩) (k.toNat * 4)))), (15, .agg #[.int .i64 x1, .int .i64 x2, .int .i64 x3, .bool false]), (3, .pointer (some ⟨b2, 0, none⟩)), (39, .bool false), (40, .pointer (some ⟨b2, 3, none⟩)), (41, .bool false), (64, .bool false), (82, .bool r)]) ?_ fun r17 hr17 => ?_
                    · skip
                      cases r15
                      · skip
                        have qr17 := hr15
                        simp at hr15
                        try dsimp only [Con.kind, Con.parts, Con.name, Con.lo, Con.hi, Con.cap, Con.ad] at hr15
                        refine ops_yes rfl rfl ?_
                        refine ops_val (yld_field Tryz.runUnderlying159 rfl rfl rfl Tryz.sizeOf3) rfl ?_
                        refine ops_yes rfl rfl ?_
                        refine ops_val (yld_load 0 Tryz.isAgg3 rfl rfl rfl) rfl ?_
                        refine ops_yes rfl rfl ?_
                        refine ops_valB (yld_eql rfl rfl) rfl fun r18 hr18 => ?_
                        refine ops_yes rfl rfl ?_
                        refine ops_val (yld_move rfl) rfl ?_
                        refine ops_cut 4 ((x1 == 2) && (reservedS nm)) (fun r => [(0, .agg #[.int .i64 k, str nm, .int .i64 lo, .int .i64 hi, .slice ad ps.length cap]), (1, .pointer (some ⟨b1, 0, none⟩)), (2, .int .i64 0), (11, .bool false), (12, .pointer (some ⟨b1, 0, none⟩)), (13, .int .i64 k), (14, .pointer (some (rad (some ⟨2, 0, none⟩) (k.toNat * 4)))), (15, .agg #[.int .i64 x1, .int .i64 x2, .int .i64 x3, .bool false]), (3, .pointer (some ⟨b2, 0, none⟩)), (39, .bool false), (40, .pointer (some ⟨b2, 3, none⟩)), (41, .bool false), (64, .bool false), (73, .bool false), (81, .bool r)]) ?_ fun r19 hr19 => ?_
                        · skip
                          cases r18
                          · skip
                            have qr19 := hr18
                            replace hr18 := ne_of_beq_false hr18
                            try dsimp only [Con.kind, Con.parts, Con.name, Con.lo, Con.hi, Con.cap, Con.ad] at hr18
                            refine ops_no rfl rfl rfl rfl ?_
                            refine ops_no rfl rfl rfl rfl ?_
                            refine ops_no rfl rfl rfl rfl ?_
                            refine ops_yes rfl rfl ?_
                            refine ops_val (yld_pick_f rfl rfl) rfl ?_
                            refine ops_nil ?_
                            refine fin_inv rfl ?_
                            exact met ⟨rfl, rfl, rfl, rfl, rfl, rfl, rfl, rfl, rfl, rfl, rfl, rfl, rfl, rfl, (get_bool rfl (jaf qr19)), trivial⟩
                          · skip
                            have qr19 := hr18
                            replace hr18 := eq_of_beq hr18
                            try dsimp only [Con.kind, Con.parts, Con.name, Con.lo, Con.hi, Con.cap, Con.ad] at hr18
                            refine ops_yes rfl rfl ?_
                            refine ops_val (yld_field Tryz.runUnderlying38 rfl rfl rfl Tryz.sizeOf9) rfl ?_
                            refine ops_yes rfl rfl ?_
                            refine ops_val (yld_load 1 Tryz.isAgg9 rfl rfl rfl) rfl ?_
                            refine ops_yes rfl rfl ?_
                            refine ops_callB (isReserved_c nm (Con.ok_name hok)) rfl (.refl _) (fun _ _ _ => trivial) rfl fun r20 hr20 => ?_
                            refine ops_yes rfl rfl ?_
                            refine ops_val (yld_pick_t rfl rfl) rfl ?_
                            refine ops_nil ?_
                            refine fin_inv rfl ?_
                            exact met ⟨rfl, rfl, rfl, rfl, rfl, rfl, rfl, rfl, rfl, rfl, rfl, rfl, rfl, rfl, (get_bool rfl (jat qr19 hr20)), trivial⟩
                        · skip
                          refine ops_val (yld_pick_f rfl rfl) rfl ?_
                          refine ops_nil ?_
                          refine fin_inv rfl ?_
                          exact met ⟨rfl, rfl, rfl, rfl, rfl, rfl, rfl, rfl, rfl, rfl, rfl, rfl, rfl, (get_bool rfl (jof qr17 hr19)), trivial⟩
                      · skip
                        have qr17 := hr15
                        simp at hr15
                        try dsimp only [Con.kind, Con.parts, Con.name, Con.lo, Con.hi, Con.cap, Con.ad] at hr15
                        refine ops_no rfl rfl rfl rfl ?_
                        refine ops_no rfl rfl rfl rfl ?_
                        refine ops_no rfl rfl rfl rfl ?_
                        refine ops_no rfl rfl rfl rfl ?_
                        refine ops_no rfl rfl rfl rfl ?_
                        refine ops_no rfl rfl rfl rfl ?_
                        refine ops_no rfl rfl rfl rfl ?_
                        refine ops_no rfl rfl rfl rfl ?_
                        refine ops_val (yld_pick_t rfl rfl) rfl ?_
                        refine ops_nil ?_
                        refine fin_inv rfl ?_
                        exact met ⟨rfl, rfl, rfl, rfl, rfl, rfl, rfl, rfl, rfl, rfl, rfl, rfl, rfl, (get_bool rfl (jot qr17)), trivial⟩
                    · skip
                      refine ops_nil ?_
                      refine fin_next rfl ?_
                      cases r17
                      · skip
                        simp at hr17
                        try dsimp only [Con.kind, Con.parts, Con.name, Con.lo, Con.hi, Con.cap, Con.ad] at hr17
                        refine run_cond_f rfl ?_
                        refine run_skip ?_
                        refine fin_next rfl ?_
                        refine run_seq ?_
                        refine run_region ?_
                        refine ops_val (yld_assign rfl) rfl ?_
                        refine ops_nil ?_
                        refine fin_next rfl ?_
                        refine run_ret ?_
                        exact ret1 Tryz.results88 () (get_int rfl (by unfold Con.fieldErr; simp only [Con.kind, Con.parts, Con.name, Con.lo, Con.hi]; simp only [hnd]; repeat (first | rfl | exact (if_pos (by omega)).symm | (rw [if_pos (by first | omega | (simp_all; done) | (simp_all; omega) | grind)]; first | done | rfl) | (rw [if_neg (by first | omega | (simp_all; done) | (simp_all; omega) | grind)])))) (.refl _) (fun _ _ _ => trivial)
                      · skip
                        simp at hr17
                        try dsimp only [Con.kind, Con.parts, Con.name, Con.lo, Con.hi, Con.cap, Con.ad] at hr17
                        refine run_cond_t rfl ?_
                        refine run_seq ?_
                        refine run_region ?_
                        refine ops_val (yld_assign rfl) rfl ?_
                        refine ops_nil ?_
                        refine fin_next rfl ?_
                        refine run_ret ?_
                        exact ret1 Tryz.results88 () (get_int rfl (by unfold Con.fieldErr; simp only [Con.kind, Con.parts, Con.name, Con.lo, Con.hi]; simp only [hnd]; repeat (first | rfl | exact (if_pos (by omega)).symm | (rw [if_pos (by first | omega | (simp_all; done) | (simp_all; omega) | grind)]; first | done | rfl) | (rw [if_neg (by first | omega | (simp_all; done) | (simp_all; omega) | grind)])))) (.refl _) (fun _ _ _ => trivial)
                · skip
                  simp at hr12
                  try dsimp only [Con.kind, Con.parts, Con.name, Con.lo, Con.hi, Con.cap, Con.ad] at hr12
                  refine run_cond_t rfl ?_
                  refine run_seq ?_
                  refine run_region ?_
                  refine ops_val (yld_assign rfl) rfl ?_
                  refine ops_nil ?_
                  refine fin_next rfl ?_
                  refine run_ret ?_
                  exact ret1 Tryz.results88 () (get_int rfl (by unfold Con.fieldErr; simp only [Con.kind, Con.parts, Con.name, Con.lo, Con.hi]; simp only [hnd]; repeat (first | rfl | exact (if_pos (by omega)).symm | (rw [if_pos (by first | omega | (simp_all; done) | (simp_all; omega) | grind)]; first | done | rfl) | (rw [if_neg (by first | omega | (simp_all; done) | (simp_all; omega) | grind)])))) (.refl _) (fun _ _ _ => trivial)
            · skip
              try dsimp only [Con.kind, Con.parts, Con.name, Con.lo, Con.hi, Con.cap, Con.ad] at hxb
              refine run_cond_t rfl ?_
              refine run_seq ?_
              refine run_region ?_
              refine ops_val (yld_field Tryz.runUnderlying38 rfl rfl rfl Tryz.sizeOf3) rfl ?_
              refine ops_val (yld_load 1 Tryz.isAgg3 rfl rfl rfl) rfl ?_
              refine ops_valB (yld_lss rfl rfl) rfl fun r21 hr21 => ?_
              refine ops_val (yld_move rfl) rfl ?_
              refine ops_cut 6 ((decide (lo < (-1099511627776))) || (decide (hi < lo))) (fun r => [(0, .agg #[.int .i64 k, str nm, .int .i64 lo, .int .i64 hi, .slice ad ps.length cap]), (1, .pointer (some ⟨b1, 0, none⟩)), (2, .int .i64 0), (11, .bool false), (12, .pointer (some ⟨b1, 0, none⟩)), (13, .int .i64 k), (14, .pointer (some (rad (some ⟨2, 0, none⟩) (k.toNat * 4)))), (15, .agg #[.int .i64 x1, .int .i64 x2, .int .i64 x3, .bool true]), (3, .pointer (some ⟨b2, 0, none⟩)), (39, .bool false), (40, .pointer (some ⟨b2, 3, none⟩)), (41, .bool true), (51, .bool r)]) ?_ fun r22 hr22 => ?_
              · skip
                cases r21
                · skip
                  have qr22 := hr21
                  replace hr21 := of_decide_eq_false hr21
                  try dsimp only [Con.kind, Con.parts, Con.name, Con.lo, Con.hi, Con.cap, Con.ad] at hr21
                  refine ops_yes rfl rfl ?_
                  refine ops_val (yld_field Tryz.runUnderlying38 rfl rfl rfl Tryz.sizeOf3) rfl ?_
                  refine ops_yes rfl rfl ?_
                  refine ops_val (yld_load 1 Tryz.isAgg3 rfl rfl rfl) rfl ?_
                  refine ops_yes rfl rfl ?_
                  refine ops_val (yld_field Tryz.runUnderlying38 rfl rfl rfl Tryz.sizeOf3) rfl ?_
                  refine ops_yes rfl rfl ?_
                  refine ops_val (yld_load 1 Tryz.isAgg3 rfl rfl rfl) rfl ?_
                  refine ops_yes rfl rfl ?_
                  refine ops_valB (yld_gtr rfl rfl) rfl fun r23 hr23 => ?_
                  refine ops_val (yld_pick_f rfl rfl) rfl ?_
                  refine ops_nil ?_
                  refine fin_inv rfl ?_
                  exact met ⟨rfl, rfl, rfl, rfl, rfl, rfl, rfl, rfl, rfl, rfl, rfl, rfl, (get_bool rfl (jof qr22 hr23)), trivial⟩
                · skip
                  have qr22 := hr21
                  replace hr21 := of_decide_eq_true hr21
                  try dsimp only [Con.kind, Con.parts, Con.name, Con.lo, Con.hi, Con.cap, Con.ad] at hr21
                  refine ops_no rfl rfl rfl rfl ?_
                  refine ops_no rfl rfl rfl rfl ?_
                  refine ops_no rfl rfl rfl rfl ?_
                  refine ops_no rfl rfl rfl rfl ?_
                  refine ops_no rfl rfl rfl rfl ?_
                  refine ops_val (yld_pick_t rfl rfl) rfl ?_
                  refine ops_nil ?_
                  refine fin_inv rfl ?_
                  exact met ⟨rfl, rfl, rfl, rfl, rfl, rfl, rfl, rfl, rfl, rfl, rfl, rfl, (get_bool rfl (jot qr22)), trivial⟩
              · skip
                refine ops_val (yld_move rfl) rfl ?_
                refine ops_cut 4 ((((decide (lo < (-1099511627776))) || (decide (hi < lo)))) || (decide (1099511627776 < hi))) (fun r => [(0, .agg #[.int .i64 k, str nm, .int .i64 lo, .int .i64 hi, .slice ad ps.length cap]), (1, .pointer (some ⟨b1, 0, none⟩)), (2, .int .i64 0), (11, .bool false), (12, .pointer (some ⟨b1, 0, none⟩)), (13, .int .i64 k), (14, .pointer (some (rad (some ⟨2, 0, none⟩) (k.toNat * 4)))), (15, .agg #[.int .i64 x1, .int .i64 x2, .int .i64 x3, .bool true]), (3, .pointer (some ⟨b2, 0, none⟩)), (39, .bool false), (40, .pointer (some ⟨b2, 3, none⟩)), (41, .bool true), (56, .bool r)]) ?_ fun r24 hr24 => ?_
                · skip
                  cases r22
                  · skip
                    have qr24 := hr22
                    simp at hr22
                    try dsimp only [Con.kind, Con.parts, Con.name, Con.lo, Con.hi, Con.cap, Con.ad] at hr22
                    refine ops_yes rfl rfl ?_
                    refine ops_val (yld_field Tryz.runUnderlying38 rfl rfl rfl Tryz.sizeOf3) rfl ?_
                    refine ops_yes rfl rfl ?_
                    refine ops_val (yld_load 1 Tryz.isAgg3 rfl rfl rfl) rfl ?_
                    refine ops_yes rfl rfl ?_
                    refine ops_valB (yld_gtr rfl rfl) rfl fun r25 hr25 => ?_
                    refine ops_val (yld_pick_f rfl rfl) rfl ?_
                    refine ops_nil ?_
                    refine fin_inv rfl ?_
                    exact met ⟨rfl, rfl, rfl, rfl, rfl, rfl, rfl, rfl, rfl, rfl, rfl, rfl, (get_bool rfl (jof qr24 hr25)), trivial⟩
                  · skip
                    have qr24 := hr22
                    simp at hr22
                    try dsimp only [Con.kind, Con.parts, Con.name, Con.lo, Con.hi, Con.cap, Con.ad] at hr22
                    refine ops_no rfl rfl rfl rfl ?_
                    refine ops_no rfl rfl rfl rfl ?_
                    refine ops_no rfl rfl rfl rfl ?_
                    refine ops_val (yld_pick_t rfl rfl) rfl ?_
                    refine ops_nil ?_
                    refine fin_inv rfl ?_
                    exact met ⟨rfl, rfl, rfl, rfl, rfl, rfl, rfl, rfl, rfl, rfl, rfl, rfl, (get_bool rfl (jot qr24)), trivial⟩
                · skip
                  refine ops_nil ?_
                  refine fin_next rfl ?_
                  cases r24
                  · skip
                    simp at hr24
                    try dsimp only [Con.kind, Con.parts, Con.name, Con.lo, Con.hi, Con.cap, Con.ad] at hr24
                    refine run_cond_f rfl ?_
                    refine run_skip ?_
                    refine fin_next rfl ?_
                    refine run_seq ?_
                    refine run_seq ?_
                    refine run_region ?_
                    refine ops_val (yld_field Tryz.runUnderlying159 rfl rfl rfl Tryz.sizeOf3) rfl ?_
                    refine ops_val (yld_load 0 Tryz.isAgg3 rfl rfl rfl) rfl ?_
                    refine ops_valB (yld_eql rfl rfl) rfl fun r26 hr26 => ?_
                    refine ops_val (yld_move rfl) rfl ?_
                    refine ops_cut 4 ((x1 == 0) || (plainS nm)) (fun r => [(0, .agg #[.int .i64 k, str nm, .int .i64 lo, .int .i64 hi, .slice ad ps.length cap]), (1, .pointer (some ⟨b1, 0, none⟩)), (2, .int .i64 0), (11, .bool false), (12, .pointer (some ⟨b1, 0, none⟩)), (13, .int .i64 k), (14, .pointer (some (rad (some ⟨2, 0, none⟩) (k.toNat * 4)))), (15, .agg #[.int .i64 x1, .int .i64 x2, .int .i64 x3, .bool true]), (3, .pointer (some ⟨b2, 0, none⟩)), (39, .bool false), (40, .pointer (some ⟨b2, 3, none⟩)), (41, .bool true), (56, .bool false), (72, .bool r)]) ?_ fun r27 hr27 => ?_
                    · skip
                      cases r26
                      · skip
                        have qr27 := hr26
                        replace hr26 := ne_of_beq_false hr26
                        try dsimp only [Con.kind, Con.parts, Con.name, Con.lo, Con.hi, Con.cap, Con.ad] at hr26
                        refine ops_yes rfl rfl ?_
                        refine ops_val (yld_field Tryz.runUnderlying38 rfl rfl rfl Tryz.sizeOf9) rfl ?_
                        refine ops_yes rfl rfl ?_
                        refine ops_val (yld_load 1 Tryz.isAgg9 rfl rfl rfl) rfl ?_
                        refine ops_yes rfl rfl ?_
                        refine ops_callB (isPlain_c nm) rfl (.refl _) (fun _ _ _ => trivial) rfl fun r28 hr28 => ?_
                        refine ops_val (yld_pick_f rfl rfl) rfl ?_
                        refine ops_nil ?_
                        refine fin_inv rfl ?_
                        exact met ⟨rfl, rfl, rfl, rfl, rfl, rfl, rfl, rfl, rfl, rfl, rfl, rfl, rfl, (get_bool rfl (jof qr27 hr28)), trivial⟩
                      · skip
                        have qr27 := hr26
                        replace hr26 := eq_of_beq hr26
                        try dsimp only [Con.kind, Con.parts, Con.name, Con.lo, Con.hi, Con.cap, Con.ad] at hr26
                        refine ops_no rfl rfl rfl rfl ?_
                        refine ops_no rfl rfl rfl rfl ?_
                        refine ops_no rfl rfl rfl rfl ?_
                        refine ops_val (yld_pick_t rfl rfl) rfl ?_
                        refine ops_nil ?_
                        refine fin_inv rfl ?_
                        exact met ⟨rfl, rfl, rfl, rfl, rfl, rfl, rfl, rfl, rfl, rfl, rfl, rfl, rfl, (get_bool rfl (jot qr27)), trivial⟩
                    · skip
                      refine ops_val (yld_move rfl) rfl ?_
                      refine ops_cut 9 ((((x1 == 0) || (plainS nm))) || (((x1 == 2) && (reservedS nm)))) (fun r => [(0, .agg #[.int .i64 k, str nm, .int .i64 lo, .int .i64 hi, .slice ad ps.length cap]), (1, .pointer (some ⟨b1, 0, none⟩)), (2, .int .i64 0), (11, .bool false), (12, .pointer (some ⟨b1, 0, none⟩)), (13, .int .i64 k), (14, .pointer (some (rad (some ⟨2, 0, none⟩) (k.toNat * 4)))), (15, .agg #[.int .i64 x1, .int .i64 x2, .int .i64 x3, .bool true]), (3, .pointer (some ⟨b2, 0, none⟩)), (39, .bool false), (40, .pointer (some ⟨b2, 3, none⟩)), (41, .bool true), (56, .bool false), (82, .bool r)]) ?_ fun r29 hr29 => ?_
                      · skip
                        cases r27
                        · skip
                          have qr29 := hr27
                          simp at hr27
                          try dsimp only [Con.kind, Con.parts, Con.name, Con.lo, Con.hi, Con.cap, Con.ad] at hr27
                          refine ops_yes rfl rfl ?_
                          refine ops_val (yld_field Tryz.runUnderlying159 rfl rfl rfl Tryz.sizeOf3) rfl ?_
                          refine ops_yes rfl rfl ?_
                          refine ops_val (yld_load 0 Tryz.isAgg3 rfl rfl rfl) rfl ?_
                          refine ops_yes rfl rfl ?_
                          refine ops_valB (yld_eql rfl rfl) rfl fun r30 hr30 => ?_
                          refine ops_yes rfl rfl ?_
                          refine ops_val (yld_move rfl) rfl ?_
                          refine ops_cut 4 ((x1 == 2) && (reservedS nm)) (fun r => [(0, .agg #[.int .i64 k, str nm, .int .i64 lo, .int .i64 hi, .slice ad ps.length cap]), (1, .pointer (some ⟨b1, 0, none⟩)), (2, .int .i64 0), (11, .bool false), (12, .pointer (some ⟨b1, 0, none⟩)), (13, .int .i64 k), (14, .pointer (some (rad (some ⟨2, 0, none⟩) (k.toNat * 4)))), (15, .agg #[.int .i64 x1, .int .i64 x2, .int .i64 x3, .bool true]), (3, .pointer (some ⟨b2, 0, none⟩)), (39, .bool false), (40, .pointer (some ⟨b2, 3, none⟩)), (41, .bool true), (56, .bool false), (73, .bool false), (81, .bool r)]) ?_ fun r31 hr31 => ?_
                          · skip
                            cases r30
                            · skip
                              have qr31 := hr30
                              replace hr30 := ne_of_beq_false hr30
                              try dsimp only [Con.kind, Con.parts, Con.name, Con.lo, Con.hi, Con.cap, Con.ad] at hr30
                              refine ops_no rfl rfl rfl rfl ?_
                              refine ops_no rfl rfl rfl rfl ?_
                              refine ops_no rfl rfl rfl rfl ?_
                              refine ops_yes rfl rfl ?_
                              refine ops_val (yld_pick_f rfl rfl) rfl ?_
                              refine ops_nil ?_
                              refine fin_inv rfl ?_
                              exact met ⟨rfl, rfl, rfl, rfl, rfl, rfl, rfl, rfl, rfl, rfl, rfl, rfl, rfl, rfl, (get_bool rfl (jaf qr31)), trivial⟩
                            · skip
                              have qr31 := hr30
                              replace hr30 := eq_of_beq hr30
                              try dsimp only [Con.kind, Con.parts, Con.name, Con.lo, Con.hi, Con.cap, Con.ad] at hr30
                              refine ops_yes rfl rfl ?_
                              refine ops_val (yld_field Tryz.runUnderlying38 rfl rfl rfl Tryz.sizeOf9) rfl ?_
                              refine ops_yes rfl rfl ?_
                              refine ops_val (yld_load 1 Tryz.isAgg9 rfl rfl rfl) rfl ?_
                              refine ops_yes rfl rfl ?_
                              refine ops_callB (isReserved_c nm (Con.ok_name hok)) rfl (.refl _) (fun _ _ _ => trivial) rfl fun r32 hr32 => ?_
                              refine ops_yes rfl rfl ?_
                              refine ops_val (yld_pick_t rfl rfl) rfl ?_
                              refine ops_nil ?_
                              refine fin_inv rfl ?_
                              exact met ⟨rfl, rfl, rfl, rfl, rfl, rfl, rfl, rfl, rfl, rfl, rfl, rfl, rfl, rfl, (get_bool rfl (jat qr31 hr32)), trivial⟩
                          · skip
                            refine ops_val (yld_pick_f rfl rfl) rfl ?_
                            refine ops_nil ?_
                            refine fin_inv rfl ?_
                            exact met ⟨rfl, rfl, rfl, rfl, rfl, rfl, rfl, rfl, rfl, rfl, rfl, rfl, rfl, (get_bool rfl (jof qr29 hr31)), trivial⟩
                        · skip
                          have qr29 := hr27
                          simp at hr27
                          try dsimp only [Con.kind, Con.parts, Con.name, Con.lo, Con.hi, Con.cap, Con.ad] at hr27
                          refine ops_no rfl rfl rfl rfl ?_
                          refine ops_no rfl rfl rfl rfl ?_
                          refine ops_no rfl rfl rfl rfl ?_
                          refine ops_no rfl rfl rfl rfl ?_
                          refine ops_no rfl rfl rfl rfl ?_
                          refine ops_no rfl rfl rfl rfl ?_
                          refine ops_no rfl rfl rfl rfl ?_
                          refine ops_no rfl rfl rfl rfl ?_
                          refine ops_val (yld_pick_t rfl rfl) rfl ?_
                          refine ops_nil ?_
                          refine fin_inv rfl ?_
                          exact met ⟨rfl, rfl, rfl, rfl, rfl, rfl, rfl, rfl, rfl, rfl, rfl, rfl, rfl, (get_bool rfl (jot qr29)), trivial⟩
                      · skip
                        refine ops_nil ?_
                        refine fin_next rfl ?_
                        cases r29
                        · skip
                          simp at hr29
                          try dsimp only [Con.kind, Con.parts, Con.name, Con.lo, Con.hi, Con.cap, Con.ad] at hr29
                          refine run_cond_f rfl ?_
                          refine run_skip ?_
                          refine fin_next rfl ?_
                          refine run_seq ?_
                          refine run_region ?_
                          refine ops_val (yld_assign rfl) rfl ?_
                          refine ops_nil ?_
                          refine fin_next rfl ?_
                          refine run_ret ?_
                          exact ret1 Tryz.results88 () (get_int rfl (by unfold Con.fieldErr; simp only [Con.kind, Con.parts, Con.name, Con.lo, Con.hi]; simp only [hnd]; repeat (first | rfl | exact (if_pos (by omega)).symm | (rw [if_pos (by first | omega | (simp_all; done) | (simp_all; omega) | grind)]; first | done | rfl) | (rw [if_neg (by first | omega | (simp_all; done) | (simp_all; omega) | grind)])))) (.refl _) (fun _ _ _ => trivial)
                        · skip
                          simp at hr29
                          try dsimp only [Con.kind, Con.parts, Con.name, Con.lo, Con.hi, Con.cap, Con.ad] at hr29
                          refine run_cond_t rfl ?_
                          refine run_seq ?_
                          refine run_region ?_
                          refine ops_val (yld_assign rfl) rfl ?_
                          refine ops_nil ?_
                          refine fin_next rfl ?_
                          refine run_ret ?_
                          exact ret1 Tryz.results88 () (get_int rfl (by unfold Con.fieldErr; simp only [Con.kind, Con.parts, Con.name, Con.lo, Con.hi]; simp only [hnd]; repeat (first | rfl | exact (if_pos (by omega)).symm | (rw [if_pos (by first | omega | (simp_all; done) | (simp_all; omega) | grind)]; first | done | rfl) | (rw [if_neg (by first | omega | (simp_all; done) | (simp_all; omega) | grind)])))) (.refl _) (fun _ _ _ => trivial)
                  · skip
                    simp at hr24
                    try dsimp only [Con.kind, Con.parts, Con.name, Con.lo, Con.hi, Con.cap, Con.ad] at hr24
                    refine run_cond_t rfl ?_
                    refine run_seq ?_
                    refine run_region ?_
                    refine ops_val (yld_assign rfl) rfl ?_
                    refine ops_nil ?_
                    refine fin_next rfl ?_
                    refine run_ret ?_
                    exact ret1 Tryz.results88 () (get_int rfl (by unfold Con.fieldErr; simp only [Con.kind, Con.parts, Con.name, Con.lo, Con.hi]; simp only [hnd]; repeat (first | rfl | exact (if_pos (by omega)).symm | (rw [if_pos (by first | omega | (simp_all; done) | (simp_all; omega) | grind)]; first | done | rfl) | (rw [if_neg (by first | omega | (simp_all; done) | (simp_all; omega) | grind)])))) (.refl _) (fun _ _ _ => trivial)
          · skip
            simp at hr7
            try dsimp only [Con.kind, Con.parts, Con.name, Con.lo, Con.hi, Con.cap, Con.ad] at hr7
            refine run_cond_t rfl ?_
            refine run_seq ?_
            refine run_region ?_
            refine ops_val (yld_assign rfl) rfl ?_
            refine ops_nil ?_
            refine fin_next rfl ?_
            refine run_ret ?_
            exact ret1 Tryz.results88 () (get_int rfl (by unfold Con.fieldErr; simp only [Con.kind, Con.parts, Con.name, Con.lo, Con.hi]; simp only [hnd]; repeat (first | rfl | exact (if_pos (by omega)).symm | (rw [if_pos (by first | omega | (simp_all; done) | (simp_all; omega) | grind)]; first | done | rfl) | (rw [if_neg (by first | omega | (simp_all; done) | (simp_all; omega) | grind)])))) (.refl _) (fun _ _ _ => trivial)
    · skip
      simp at hr2
      try dsimp only [Con.kind, Con.parts, Con.name, Con.lo, Con.hi, Con.cap, Con.ad] at hr2
      refine run_cond_t rfl ?_
      refine run_seq ?_
      refine run_region ?_
      refine ops_val (yld_assign rfl) rfl ?_
      refine ops_nil ?_
      refine fin_next rfl ?_
      refine run_ret ?_
      exact ret1 Tryz.results88 () (get_int rfl (by unfold Con.fieldErr; simp only [Con.kind, Con.parts, Con.name, Con.lo, Con.hi]; repeat (first | rfl | exact (if_pos (by omega)).symm | (rw [if_pos (by first | omega | (simp_all; done) | (simp_all; omega) | grind)]; first | done | rfl) | (rw [if_neg (by first | omega | (simp_all; done) | (simp_all; omega) | grind)])))) (.refl _) (fun _ _ _ => trivial)

end Go.Proofs.YtoafjmalfclpoaaGreatDoor

/-
  My own contracts.
-/
namespace Go.Proofs.YtoafjmalfclpoaaGreatDoor
open Go Go.Sx Go.Proofs
set_option linter.unusedVariables false
attribute [local irreducible] Code.wp wpList wpAnyH

open Go.Vs
theorem visit_c {σ τ : Type} {l : Nat} {Gj : σ → Hp} {Gx : τ → Hp} {stp : Con → σ → σ ⊕ τ} {E : List Fct} {good : Con → Prop} (hgood : ∀ c p, good c → p ∈ c.parts → good p)
    (hY : ∀ s x, x.ok → good x → YTri Tryz.prog l x.val (Gj s) (x.memF :: E) (fun _ : Unit => .bool (stp x s).isLeft) (fun _ => hpOf Gj Gx (stp x s)) (fun _ => [])) :
    ∀ (m : Nat) (c : Con), c.sz ≤ m → c.ok → good c → ∀ (s : σ) r, Con.fold stp c s = r →
    Tri Tryz.prog 136 #[c.val, .func (.yield l) #[] #[]] (Gj s) (c.memF :: E) (fun _ : Unit => .bool r.isLeft) (fun _ => hpOf Gj Gx r) (fun _ => []) := by
  intro m
  induction m with
  | zero => intro c h; have := c.sz_pos; omega
  | succ m ih =>
    intro c hm hok hg s r hr
    obtain ⟨k, nm, lo, hi, ad, cap, ps⟩ := c
    have hlen := Con.ok_len hok
    simp only [Con.parts, Con.cap] at hlen
    have hgp : ∀ p ∈ ps, good p := fun p hp => hgood _ p hg hp
    refine tri_of_body Tryz.func136 rfl rfl Tryz.ntmps136 rfl fun v0 => ?_
    refine run_seq ?_
    refine run_region ?_
    refine ops_box rfl rfl fun b1 => ?_
    refine ops_val (yld_assign rfl) rfl ?_
    refine ops_nil ?_
    refine fin_next rfl ?_
    refine run_seq ?_
    refine run_seq ?_
    rcases hfc : stp (.mk k nm lo hi ad cap ps) s with s1 | t1
    · skip
      refine run_yreg (ι := Unit) (fun _ => [(1, .func (.yield l) #[] #[]), (2, .pointer (some ⟨b1, 0, none⟩)), (10, .bool false)]) (fun _ => (b1, .cells (Con.mk k nm lo hi ad cap ps).cells.toArray 38 (0, 0)) :: Gj s1) (fun _ => [(Con.mk k nm lo hi ad cap ps).memF] ++ E) ?_ fun _ => ?_
      · skip
        refine runI_region ?_
        refine opsI_val opn_wide (yld_move rfl) rfl rfl ?_
        refine opsI_val opn_wide (yld_loadC (c := .mk k nm lo hi ad cap ps) 0 Tryz.isAgg38 Tryz.sizeOf38 rfl rfl) rfl rfl ?_
        refine opsI_yield (hY s _ hok hg) rfl rfl (@List.perm_append_comm _ [_] _) (fun v _ h => h) rfl fun _ => ?_
        rw [hfc]
        refine opsI_val opn_wide (yld_not rfl) rfl rfl ?_
        refine opsI_nil ?_
        refine finI_end rfl ?_
        exact midI_done () ⟨rfl, rfl, rfl, trivial⟩ (F := []) (by rw [List.append_nil]; exact @List.perm_append_comm _ _ [_]) (fun _ _ h => h)
      · skip
        refine fin_next rfl ?_
        refine run_cond_f rfl ?_
        refine run_skip ?_
        refine fin_next rfl ?_
        refine run_seq ?_
        refine run_seq ?_
        refine run_region ?_
        refine ops_val (yld_field Tryz.runUnderlying38 rfl rfl rfl Tryz.sizeOf36) rfl ?_
        refine ops_val (yld_load 0 Tryz.isAgg36 rfl rfl rfl) rfl ?_
        refine ops_val (yld_lenS Tryz.runUnderlying36 rfl) rfl ?_
        refine ops_val (yld_move rfl) rfl ?_
        refine ops_nil ?_
        refine fin_next rfl ?_
        refine run_block ?_
        refine ok_fr [(1, .func (.yield l) #[] #[]), (12, .slice ad ps.length cap), (13, .int .i64 (ps.length : Int)), (14, .int .i64 ((0 : Nat) : Int))] ⟨rfl, rfl, rfl, rfl, trivial⟩ ?_
        refine run_loop (ι := {q : Nat × σ // q.1 ≤ ps.length ∧ Con.fold.folds stp (ps.take q.1) s1 = .inl q.2}) (fun i => [(1, .func (.yield l) #[] #[]), (12, .slice ad ps.length cap), (13, .int .i64 (ps.length : Int)), (14, .int .i64 (i.1.1 : Int))]) (fun i => _ :: Gj i.1.2) (fun _ => _) (fun i => ps.length - i.1.1) ⟨(0, s1), by simp [Con.fold.folds]⟩ ?_
        rintro ⟨⟨i, m1⟩, hk⟩
        refine ok_fr [(1, .func (.yield l) #[] #[]), (12, .slice ad ps.length cap), (13, .int .i64 (ps.length : Int)), (14, .int .i64 (i : Int))] ⟨rfl, rfl, rfl, rfl, trivial⟩ ?_
        refine run_seq ?_
        refine run_region ?_
        refine ops_valB (yld_lss rfl rfl) rfl fun r1 hr1 => ?_
        refine ops_nil ?_
        refine fin_next rfl ?_
        refine run_seq ?_
        cases r1
        · skip
          replace hr1 := of_decide_eq_false hr1
          try dsimp only [Con.kind, Con.parts, Con.name, Con.lo, Con.hi, Con.cap, Con.ad] at hr1
          refine run_cond_f rfl ?_
          refine run_exit rfl ?_
          refine fin_next rfl ?_
          refine run_seq ?_
          refine run_region ?_
          refine ops_val (yld_assign rfl) rfl ?_
          refine ops_nil ?_
          refine fin_next rfl ?_
          refine run_ret ?_
          obtain rfl : r = .inl m1 := by rw [← hr, Con.fold_eq, hfc]; exact Con.folds_yes (show ps.length ≤ i by omega) hk.2
          exact ret1 Tryz.results136 () rfl (@List.perm_append_comm _ [_] _) (fun _ _ _ => trivial)
        · skip
          replace hr1 := of_decide_eq_true hr1
          try dsimp only [Con.kind, Con.parts, Con.name, Con.lo, Con.hi, Con.cap, Con.ad] at hr1
          have hlt : i < ps.length := by omega
          obtain ⟨p, hp⟩ : ∃ p, ps[i]? = some p := ⟨_, List.getElem?_eq_getElem hlt⟩
          have hpm : p ∈ ps := List.mem_of_getElem? hp
          refine run_cond_t rfl ?_
          refine run_skip ?_
          refine fin_next rfl ?_
          refine run_seq ?_
          refine run_block ?_
          refine run_seq ?_
          refine run_region ?_
          refine ops_val (yld_indexR Tryz.runUnderlying36 Tryz.sizeOf38 rfl rfl (fun v _ h => Con.row_addr (c := .mk k nm lo hi ad cap ps) h.1 hp) (by omega) (by omega)) rfl ?_
          refine ops_val (yld_loadRS (us := p.cells) Tryz.isAgg38 Tryz.sizeOf38 rfl (fun v _ h => ((Con.mem_iff (.mk k nm lo hi ad cap ps) v).1 h.1).1) p.cells_len (Con.part_cells (c := .mk k nm lo hi ad cap ps) (i := i) hp)) rfl ?_
          refine ops_alloc Tryz.zeroValue38 rfl fun b2 => ?_
          refine ops_storeC 0 Tryz.sizeOf38 rfl rfl rfl rfl ?_
          refine ops_nil ?_
          refine fin_next rfl ?_
          refine run_seq ?_
          rcases hfp : Con.fold stp p m1 with m2 | t2
          · skip
            refine run_region ?_
            refine ops_val (yld_loadC 0 Tryz.isAgg38 Tryz.sizeOf38 rfl rfl) rfl ?_
            refine ops_val (yld_move rfl) rfl ?_
            refine ops_call (ih p (by have := Con.sz_part (c := .mk k nm lo hi ad cap ps) hpm; omega) (Con.ok_part (c := .mk k nm lo hi ad cap ps) hok hpm) (hgp p hpm) m1 _ hfp) rfl (@List.perm_append_comm _ [_, _] _) (fun v _ h => ⟨Con.mem_part (c := .mk k nm lo hi ad cap ps) h.1 hpm, h.2⟩) rfl fun _ => ?_
            refine ok_perm (@List.perm_append_comm _ _ [_, _]) ?_
            refine ops_val (yld_not rfl) rfl ?_
            refine ops_nil ?_
            refine fin_next rfl ?_
            refine run_cond_f rfl ?_
            refine run_skip ?_
            refine fin_next rfl ?_
            refine run_region ?_
            refine ops_val (yld_arith rfl rfl rfl (wrap64 (by omega) (by omega))) rfl ?_
            refine ops_val (yld_move rfl) rfl ?_
            refine ops_nil ?_
            refine fin_inv rfl ?_
            exact ok_again ⟨(i + 1, m2), hlt, Con.folds_step hp hk.2 hfp⟩ (by simp; omega) ⟨rfl, rfl, rfl, rfl, trivial⟩ (F := [_]) (@List.perm_append_comm _ [_] _) (fun _ _ h => h)
          · skip
            refine run_region ?_
            refine ops_val (yld_loadC 0 Tryz.isAgg38 Tryz.sizeOf38 rfl rfl) rfl ?_
            refine ops_val (yld_move rfl) rfl ?_
            refine ops_call (ih p (by have := Con.sz_part (c := .mk k nm lo hi ad cap ps) hpm; omega) (Con.ok_part (c := .mk k nm lo hi ad cap ps) hok hpm) (hgp p hpm) m1 _ hfp) rfl (@List.perm_append_comm _ [_, _] _) (fun v _ h => ⟨Con.mem_part (c := .mk k nm lo hi ad cap ps) h.1 hpm, h.2⟩) rfl fun _ => ?_
            refine ok_perm (@List.perm_append_comm _ _ [_, _]) ?_
            refine ops_val (yld_not rfl) rfl ?_
            refine ops_nil ?_
            refine fin_next rfl ?_
            refine run_cond_t rfl ?_
            refine run_seq ?_
            refine run_region ?_
            refine ops_val (yld_assign rfl) rfl ?_
            refine ops_nil ?_
            refine fin_next rfl ?_
            refine run_ret ?_
            obtain rfl : r = .inr t2 := by rw [← hr, Con.fold_eq, hfc]; exact Con.folds_no hp hk.2 hfp
            exact ret1 Tryz.results136 () rfl (@List.perm_append_comm _ [_, _] _) (fun _ _ _ => trivial)
    · skip
      refine run_yreg (ι := Unit) (fun _ => [(1, .func (.yield l) #[] #[]), (2, .pointer (some ⟨b1, 0, none⟩)), (10, .bool true)]) (fun _ => (b1, .cells (Con.mk k nm lo hi ad cap ps).cells.toArray 38 (0, 0)) :: Gx t1) (fun _ => [(Con.mk k nm lo hi ad cap ps).memF] ++ E) ?_ fun _ => ?_
      · skip
        refine runI_region ?_
        refine opsI_val opn_wide (yld_move rfl) rfl rfl ?_
        refine opsI_val opn_wide (yld_loadC (c := .mk k nm lo hi ad cap ps) 0 Tryz.isAgg38 Tryz.sizeOf38 rfl rfl) rfl rfl ?_
        refine opsI_yield (hY s _ hok hg) rfl rfl (@List.perm_append_comm _ [_] _) (fun v _ h => h) rfl fun _ => ?_
        rw [hfc]
        refine opsI_val opn_wide (yld_not rfl) rfl rfl ?_
        refine opsI_nil ?_
        refine finI_end rfl ?_
        exact midI_done () ⟨rfl, rfl, rfl, trivial⟩ (F := []) (by rw [List.append_nil]; exact @List.perm_append_comm _ _ [_]) (fun _ _ h => h)
      · skip
        refine fin_next rfl ?_
        refine run_cond_t rfl ?_
        refine run_seq ?_
        refine run_region ?_
        refine ops_val (yld_assign rfl) rfl ?_
        refine ops_nil ?_
        refine fin_next rfl ?_
        refine run_ret ?_
        obtain rfl : r = .inr t1 := by rw [← hr, Con.fold_eq, hfc]
        exact ret1 Tryz.results136 () rfl (@List.perm_append_comm _ [_] _) (fun _ _ _ => trivial)

theorem walk_c (c : Con) :
    Tri Tryz.prog 87 #[c.val] [] [] (fun b : Nat => .func (.func 135) #[] #[.pointer (some ⟨b, 0, none⟩)]) (fun b => [(b, .cells c.cells.toArray 38 (0, 0))]) (fun _ => []) := by
  refine tri_of_body Tryz.func87 rfl rfl Tryz.ntmps87 rfl fun v0 => ?_
  refine run_seq ?_
  refine run_region ?_
  refine ops_box rfl rfl fun b1 => ?_
  refine ops_val (yld_assign rfl) rfl ?_
  refine ops_nil ?_
  refine fin_next rfl ?_
  refine run_seq ?_
  refine run_region ?_
  refine ops_val (yld_func rfl rfl) rfl ?_
  refine ops_val (yld_assign rfl) rfl ?_
  refine ops_nil ?_
  refine fin_next rfl ?_
  refine run_ret ?_
  exact ret1 Tryz.results87 b1 rfl (F := []) (.refl _) (fun _ _ _ => trivial)

theorem walk1_c {σ τ : Type} {l b : Nat} {Gj : σ → Hp} {Gx : τ → Hp} {stp : Con → σ → σ ⊕ τ} {E : List Fct} {good : Con → Prop} (hgood : ∀ c p, good c → p ∈ c.parts → good p)
    (hY : ∀ s x, x.ok → good x → YTri Tryz.prog l x.val (Gj s) (x.memF :: E) (fun _ : Unit => .bool (stp x s).isLeft) (fun _ => hpOf Gj Gx (stp x s)) (fun _ => []))
    (c : Con) (hok : c.ok) (hg : good c) (s : σ) :
    Tri Tryz.prog 135 #[.func (.yield l) #[] #[], .pointer (some ⟨b, 0, none⟩)] ((b, .cells c.cells.toArray 38 (0, 0)) :: Gj s) (c.memF :: E) (fun _ : Unit => .tuple #[]) (fun _ => (b, .cells c.cells.toArray 38 (0, 0)) :: hpOf Gj Gx (Con.fold stp c s)) (fun _ => []) := by
  refine tri_of_body Tryz.func135 rfl rfl Tryz.ntmps135 rfl fun v0 => ?_
  refine run_region ?_
  refine ops_val (yld_loadC (c := c) 0 Tryz.isAgg38 Tryz.sizeOf38 rfl rfl) rfl ?_
  refine ops_val (yld_move rfl) rfl ?_
  refine ops_call (visit_c hgood hY _ c (Nat.le_refl _) hok hg s _ rfl) rfl (@List.perm_append_comm _ [_] _) (fun v _ h => h) rfl fun _ => ?_
  refine ops_nil ?_
  refine fin_end rfl ?_
  exact end0 Tryz.results135 () rfl (F := []) (by rw [List.append_nil]; exact @List.perm_append_comm _ _ [_]) (fun _ _ _ => trivial)

theorem checkConcept_c (c : Con) (hok : c.ok) : Tri Tryz.prog 44 #[c.val] [] [c.memF, tabs] (fun _ : Unit => .int .i64 c.check) (fun _ => []) (fun _ => []) := by
  obtain ⟨k, nm, lo, hi, ad, cap, ps⟩ := c
  refine tri_of_bodyM Tryz.func44 rfl rfl Tryz.ntmps44 rfl fun v0 => ?_
  refine run_seq ?_
  refine run_region ?_
  refine ops_box rfl rfl fun b1 => ?_
  refine ops_alloc Tryz.zeroValue26 rfl fun b2 => ?_
  refine ops_nil ?_
  refine fin_next rfl ?_
  refine run_seq ?_
  refine run_region ?_
  refine ops_alloc Tryz.zeroValue3 rfl fun b3 => ?_
  refine ops_store 0 Tryz.sizeOf3 rfl rfl rfl rfl rfl rfl ?_
  refine ops_nil ?_
  refine fin_next rfl ?_
  refine run_seq ?_
  refine run_seq ?_
  refine run_region ?_
  refine ops_val (yld_loadS 2 Tryz.isAgg38 Tryz.sizeOf38 rfl rfl rfl) rfl ?_
  refine ops_call1B 0 (fits_c _ (.mk k nm lo hi ad cap ps) (Nat.le_refl _) hok 0 0 b3 (by omega) (by omega) _ rfl) rfl rfl (fun v _ h => ⟨h.1, trivial⟩) rfl fun r1 hr1 => ?_
  refine ops_val (yld_not rfl) rfl ?_
  refine ops_nil ?_
  refine fin_next rfl ?_
  cases r1
  · skip
    try dsimp only [Con.kind, Con.parts, Con.name, Con.lo, Con.hi, Con.cap, Con.ad] at hr1
    refine run_cond_t rfl ?_
    refine run_seq ?_
    refine run_region ?_
    refine ops_store 1 Tryz.sizeOf26 rfl rfl rfl rfl rfl rfl ?_
    refine ops_nil ?_
    refine fin_next rfl ?_
    refine run_ret ?_
    exact retM () (fun a v h1 h2 _ => by rw [res_cell 1 Tryz.results44 Tryz.isAgg26 rfl rfl a v h1 h2]; simp [Con.check, *]) (.refl _) (fun _ _ _ => trivial)
  · skip
    try dsimp only [Con.kind, Con.parts, Con.name, Con.lo, Con.hi, Con.cap, Con.ad] at hr1
    refine run_cond_f rfl ?_
    refine run_skip ?_
    refine fin_next rfl ?_
    refine run_seq ?_
    refine run_seq ?_
    refine run_region ?_
    refine ops_val (yld_loadS 2 Tryz.isAgg38 Tryz.sizeOf38 rfl rfl rfl) rfl ?_
    refine ops_call (walk_c (.mk k nm lo hi ad cap ps)) rfl (.refl _) (fun _ _ _ => trivial) rfl fun b => ?_
    refine ops_nil ?_
    refine fin_next rfl ?_
    refine run_block ?_
    refine ok_fr [(2, .pointer (some ⟨b2, 0, none⟩)), (10, .func (.func 135) #[] #[.pointer (some ⟨b, 0, none⟩)])] ⟨rfl, rfl, trivial⟩ ?_
    refine ok_weak (H' := [_, _]) (F := [_, _]) (.cons _ (.swap _ _ _)) (fun _ _ h => h) ?_
    refine run_range (α := {c : Con // c.ok}) (xv := fun x => x.1.val) (good := fun _ => True) (stp := fun x => Con.chk x.1) (Γx := fun x => [x.1.memF, tabs]) (Γi := [Con.memF (.mk k nm lo hi ad cap ps), tabs]) (Hj := fun _ : Unit => [(b2, .cells #[.int .i64 0] 26 (0, 0))]) (Hx := fun t : Int => [(b2, .cells #[.int .i64 t] 26 (0, 0))]) (Hc := [(b, .cells (Con.mk k nm lo hi ad cap ps).cells.toArray 38 (0, 0))]) (caps := [.pointer (some ⟨b, 0, none⟩)]) () (Con.fold Con.chk (.mk k nm lo hi ad cap ps) ()) rfl (.refl _) (fun v _ h => h) ?_ ?_ ?_ ?_
    · rintro l D rec hp hst hpe ht hasg hbody s ⟨x, hx⟩ -
      refine ytri_round (ι := Nat) (Hj := fun _ : Unit => [(b2, .cells #[.int .i64 0] 26 (0, 0))]) (Hx := fun t : Int => [(b2, .cells #[.int .i64 t] 26 (0, 0))]) (s := s) (res := Con.chk x s) (Γ := [x.memF, tabs]) (fun b4 => [(2, .pointer (some ⟨b2, 0, none⟩)), (4, .pointer (some ⟨b4, 0, none⟩))]) (fun b4 => [(b4, .cells x.cells.toArray 38 (0, 0)), (b2, .cells #[.int .i64 0] 26 (0, 0))]) hp hst hpe ht rfl ?_ ?_
      · intro n v0 H0 HL
        rw [hasg]
        refine runI_region ?_
        refine opsI_alloc (opn_round _) Tryz.zeroValue38 rfl fun b4 => ?_
        refine opsI_storeC (opn_round _) 0 Tryz.sizeOf38 rfl rfl rfl rfl ?_
        refine opsI_nil ?_
        refine finI_end rfl ?_
        exact midI_done b4 ⟨rfl, rfl, trivial⟩ (F := []) (by rw [List.append_nil]; exact .refl _) (fun _ _ h => h)
      · intro n v0 H0 HL b4
        rw [hbody]
        refine runI_block ?_
        refine runI_seq ?_
        refine runI_region ?_
        refine opsI_val (opn_round _) (yld_loadC 0 Tryz.isAgg38 Tryz.sizeOf38 rfl rfl) rfl rfl ?_
        refine opsI_call (checkFields_c x hx) rfl (.refl _) (fun v _ h => ⟨h.2.1, trivial⟩) rfl fun _ => ?_
        refine opsI_val (opn_round _) (yld_assign rfl) rfl rfl ?_
        refine opsI_nil ?_
        refine finI_next rfl ?_
        refine runI_seq ?_
        refine runI_region ?_
        refine opsI_val (opn_round _) (yld_move rfl) rfl rfl ?_
        refine opsI_valB (opn_round _) (yld_neq rfl rfl) rfl rfl fun r2 hr2 => ?_
        refine opsI_nil ?_
        refine finI_next rfl ?_
        cases r2
        · skip
          replace hr2 := eq_of_bne hr2
          try dsimp only [Con.kind, Con.parts, Con.name, Con.lo, Con.hi, Con.cap, Con.ad] at hr2
          refine runI_cond_f rfl ?_
          refine runI_skip ?_
          refine finI_end rfl ?_
          exact round_end () (by simp [Con.chk, *]) (G := [_]) (@List.perm_append_comm _ [_] _)
        · skip
          replace hr2 := ne_of_bne hr2
          try dsimp only [Con.kind, Con.parts, Con.name, Con.lo, Con.hi, Con.cap, Con.ad] at hr2
          refine runI_cond_t rfl ?_
          refine runI_seq ?_
          refine runI_region ?_
          refine opsI_val (opn_round _) (yld_move rfl) rfl rfl ?_
          refine opsI_store (opn_round _) 1 Tryz.sizeOf26 rfl rfl rfl rfl rfl rfl ?_
          refine opsI_nil ?_
          refine finI_next rfl ?_
          refine runI_ret ?_
          exact round_ret x.fieldErr (by simp [Con.chk, *]) (G := [_]) (@List.perm_append_comm _ [_] _)
    · intro l Gj Gx hY
      exact walk1_c (E := [tabs]) (good := fun _ => True) (fun _ _ _ _ => trivial) (fun s x hx _ => hY s ⟨x, hx⟩ trivial) _ hok trivial ()
    · intro s hs D l r
      rw [Con.fold_chk _ _ (Nat.le_refl _)] at hs
      refine finI_next rfl ?_
      refine runI_seq ?_
      refine runI_region ?_
      refine opsI_store opn_wide 1 Tryz.sizeOf26 rfl rfl rfl rfl rfl rfl ?_
      refine opsI_nil ?_
      refine finI_next rfl ?_
      refine runI_ret ?_
      have hz : (0 : Int) = (Con.mk k nm lo hi ad cap ps).check := by unfold Con.check; rw [if_pos (by assumption)]; split at hs; (rename_i h; exact h.symm); cases hs
      exact retMD (G := [_, _, _]) () (fun a v h1 h2 => by rw [← hz]; exact res_cell 1 Tryz.results44 Tryz.isAgg26 rfl rfl a v h1 h2) (perm_at (i := 3) rfl) ⟨_, .refl _⟩ rfl
    · intro t hs D l r
      rw [Con.fold_chk _ _ (Nat.le_refl _)] at hs
      have hz : t = (Con.mk k nm lo hi ad cap ps).check := by unfold Con.check; rw [if_pos (by assumption)]; split at hs; cases hs; injection hs with hs; exact hs.symm
      exact retMD (G := [_, _, _]) () (fun a v h1 h2 => by rw [← hz]; exact res_cell 1 Tryz.results44 Tryz.isAgg26 rfl rfl a v h1 h2) (perm_at (i := 3) rfl) ⟨_, .refl _⟩ rfl

end Go.Proofs.YtoafjmalfclpoaaGreatDoor
