/-
  Part of the proof of the law NormalPieces over this seat (no condition).
-/
import Derived.Test.YtoafjmalfclpoaaGreatDoorQNormalPieces1
import Derived.Test.YtoafjmalfclpoaaGreatDoorPk2
import Derived.Test.YtoafjmalfclpoaaGreatDoorProg
import Derived.Lib.ItoaMem
import Derived.Laws.IdiomStrings
set_option linter.unusedVariables false
set_option linter.unusedSimpArgs false
set_option linter.unusedSectionVars false
/-
  My own contracts.
-/
namespace Go.Proofs.YtoafjmalfclpoaaGreatDoor
open Go Go.Sx Go.Proofs
set_option linter.unusedVariables false
attribute [local irreducible] Code.wp wpList wpAnyH

open Go.Vs
theorem rSize_c : ∀ (m : Nat) (c : Con), c.sz ≤ m → c.ok → c.sz ≤ 1000 → Tri Tryz.prog 91 #[Con.val c] [] [Con.memF c] (fun _ : Unit => .int .i64 (c.sz : Int)) (fun _ => []) (fun _ => []) := by
 intro m
 induction m with
 | zero => intro c h; have := c.sz_pos; omega
 | succ m ih =>
  intro c hm hok hz
  have hpl := Con.ok_len hok
  refine tri_of_body Tryz.func91 rfl rfl Tryz.ntmps91 rfl fun v0 => ?_
  refine run_seq (run_region (ops_box rfl rfl fun b1 => ?_))
  refine ops_val (yld_assign rfl) rfl (ops_nil (fin_next rfl (run_seq (run_region (ops_val (yld_assign rfl) rfl (ops_nil (fin_next rfl ?_)))))))
  refine run_seq (run_seq (run_region (ops_val (yld_assign rfl) rfl (ops_nil (fin_next rfl (run_block ?_))))))
  have hsz := Con.sz_eq c
  refine ok_fr [(1, .pointer (some ⟨b1, 0, none⟩)), (3, .int .i64 1), (4, .int .i64 ((0 : Nat) : Int))] ⟨rfl, rfl, rfl, trivial⟩ ?_
  refine run_loop (ι := {z : Nat // z ≤ c.parts.length}) (fun z => [(1, .pointer (some ⟨b1, 0, none⟩)), (3, .int .i64 ((1 + Con.sz.szs (c.parts.take z.1) : Nat) : Int)), (4, .int .i64 (z.1 : Int))]) (fun _ => _) (fun _ => _) (fun z => c.parts.length - z.1) ⟨0, by simp⟩ ?_
  rintro ⟨i, hi⟩
  dsimp only
  have hle := Con.szs_take_le c.parts i
  refine ok_fr [(1, .pointer (some ⟨b1, 0, none⟩)), (3, .int .i64 ((1 + Con.sz.szs (c.parts.take i) : Nat) : Int)), (4, .int .i64 (i : Int))] ⟨rfl, rfl, rfl, trivial⟩ ?_
  refine run_seq (run_seq (run_region (ops_val (yld_move rfl) rfl (ops_val (yld_field Tryz.runUnderlying38 rfl rfl rfl Tryz.sizeOf36) rfl ?_))))
  refine ops_val (yld_load 0 Tryz.isAgg36 rfl rfl rfl) rfl ?_
  refine ops_val (yld_lenS Tryz.runUnderlying36 rfl) rfl ?_
  refine ops_valB (yld_lss rfl rfl) rfl fun r1 hr1 => ?_
  refine ops_nil (fin_next rfl ?_)
  cases r1
  ·
   replace hr1 := of_decide_eq_false hr1
   refine run_cond_f rfl (run_exit rfl (fin_next rfl (run_seq (run_region (ops_val (yld_move rfl) rfl (ops_val (yld_assign rfl) rfl (ops_nil ?_)))))))
   refine fin_next rfl (run_ret ?_)
   exact ret1 Tryz.results91 () (get_int rfl (by rw [hsz, List.take_of_length_le (by omega)])) pf_nil (fun _ _ _ => trivial)
  ·
   replace hr1 := of_decide_eq_true hr1
   have hlx1 : i < List.length (Con.parts c) := by omega
   obtain ⟨x1, hx1⟩ : ∃ e0, (Con.parts c)[i]? = some e0 := ⟨_, List.getElem?_eq_getElem hlx1⟩
   have hmx1 : x1 ∈ (Con.parts c) := List.mem_of_getElem? hx1
   have hsp := Con.sz_part hmx1
   have hle2 := Con.szs_take_le c.parts (i + 1)
   rw [Con.szs_step hx1] at hle2
   refine run_cond_t rfl (run_skip (fin_next rfl (run_seq (run_block (run_region (ops_val (yld_move rfl) rfl (ops_val (yld_field Tryz.runUnderlying38 rfl rfl rfl Tryz.sizeOf36) rfl ?_)))))))
   refine ops_val (yld_load 0 Tryz.isAgg36 rfl rfl rfl) rfl ?_
   refine ops_val (yld_move rfl) rfl (ops_val (yld_indexR Tryz.runUnderlying36 Tryz.sizeOf38 rfl rfl (fun v _ h => row_adr (n := 5) Con.cells_len (by decide) (by exact ((Con.mem_iff c v).1 h.1).1) hx1) (by omega) (by first | omega | (simp; done))) rfl ?_)
   refine ops_val (yld_loadRS (ad := (Con.ad c)) (us := Con.cells x1) Tryz.isAgg38 Tryz.sizeOf38 rfl (fun v _ h => by exact ((Con.mem_iff c v).1 h.1).1) (Con.cells_len _) (row_cells Con.cells_len hx1)) rfl ?_
   refine ops_call (ih x1 (by omega) (Con.ok_part hok hmx1) (by omega)) rfl pf_nil (fun v _ h => by exact ⟨(Con.mem_part (c := c) h.1 hmx1), trivial⟩) rfl fun _ => ?_
   refine ops_val (yld_arith rfl rfl rfl (wrap64 (by omega) (by omega))) rfl ?_
   refine ops_val (yld_assign rfl) rfl (ops_nil (fin_next rfl (run_region (ops_val (yld_move rfl) rfl (ops_val (yld_arith rfl rfl rfl (wrap64 (by omega) (by omega))) rfl ?_)))))
   refine ops_val (yld_assign rfl) rfl (ops_nil (fin_inv rfl ?_))
   have hst := Con.szs_step hx1
   exact ok_again ⟨i + 1, hlx1⟩ (by dsimp only; omega) ⟨rfl, (get_int rfl (by dsimp only; omega)), rfl, trivial⟩ (.refl _) (fun _ _ h => h)

theorem rDepth_c : ∀ (m : Nat) (c : Con), c.sz ≤ m → c.ok → c.sz ≤ 1000 → Tri Tryz.prog 90 #[Con.val c] [] [Con.memF c] (fun _ : Unit => .int .i64 (c.dep : Int)) (fun _ => []) (fun _ => []) := by
 intro m
 induction m with
 | zero => intro c h; have := c.sz_pos; omega
 | succ m ih =>
  intro c hm hok hz
  have hpl := Con.ok_len hok
  refine tri_of_body Tryz.func90 rfl rfl Tryz.ntmps90 rfl fun v0 => ?_
  refine run_seq (run_region (ops_box rfl rfl fun b1 => ?_))
  refine ops_val (yld_assign rfl) rfl (ops_nil (fin_next rfl (run_seq (run_region (ops_val (yld_assign rfl) rfl (ops_nil (fin_next rfl ?_)))))))
  refine run_seq (run_seq (run_region (ops_val (yld_assign rfl) rfl (ops_nil (fin_next rfl (run_block (ok_fr [(1, .pointer (some ⟨b1, 0, none⟩)), (3, .int .i64 0), (4, .int .i64 ((0 : Nat) : Int))] ⟨rfl, rfl, rfl, trivial⟩ ?_)))))))
  refine run_loop (ι := {z : Nat // z ≤ c.parts.length}) (fun z => [(1, .pointer (some ⟨b1, 0, none⟩)), (3, .int .i64 (Con.dep.deps (c.parts.take z.1) : Int)), (4, .int .i64 (z.1 : Int))]) (fun _ => _) (fun _ => _) (fun z => c.parts.length - z.1) ⟨0, by simp⟩ ?_
  rintro ⟨i, hi⟩
  dsimp only
  refine ok_fr [(1, .pointer (some ⟨b1, 0, none⟩)), (3, .int .i64 (Con.dep.deps (c.parts.take i) : Int)), (4, .int .i64 (i : Int))] ⟨rfl, rfl, rfl, trivial⟩ ?_
  refine run_seq (run_seq (run_region (ops_val (yld_move rfl) rfl (ops_val (yld_field Tryz.runUnderlying38 rfl rfl rfl Tryz.sizeOf36) rfl ?_))))
  refine ops_val (yld_load 0 Tryz.isAgg36 rfl rfl rfl) rfl ?_
  refine ops_val (yld_lenS Tryz.runUnderlying36 rfl) rfl ?_
  refine ops_valB (yld_lss rfl rfl) rfl fun r1 hr1 => ?_
  refine ops_nil (fin_next rfl ?_)
  cases r1
  ·
   replace hr1 := of_decide_eq_false hr1
   refine run_cond_f rfl (run_exit rfl (fin_next rfl (run_seq (run_region (ops_val (yld_move rfl) rfl (ops_val (yld_assign rfl) rfl (ops_nil ?_)))))))
   refine fin_next rfl (run_ret ?_)
   exact ret1 Tryz.results90 () (get_int rfl (by rw [Con.dep_eq, List.take_of_length_le (by omega)])) pf_nil (fun _ _ _ => trivial)
  ·
   replace hr1 := of_decide_eq_true hr1
   have hlx1 : i < List.length (Con.parts c) := by omega
   obtain ⟨x1, hx1⟩ : ∃ e0, (Con.parts c)[i]? = some e0 := ⟨_, List.getElem?_eq_getElem hlx1⟩
   have hmx1 : x1 ∈ (Con.parts c) := List.mem_of_getElem? hx1
   have hsp := Con.sz_part hmx1
   have hds := Con.dep_sz _ x1 (Nat.le_refl _)
   refine run_cond_t rfl (run_skip (fin_next rfl (run_seq (run_block (run_region (ops_val (yld_move rfl) rfl (ops_val (yld_field Tryz.runUnderlying38 rfl rfl rfl Tryz.sizeOf36) rfl ?_)))))))
   refine ops_val (yld_load 0 Tryz.isAgg36 rfl rfl rfl) rfl ?_
   refine ops_val (yld_move rfl) rfl (ops_val (yld_indexR Tryz.runUnderlying36 Tryz.sizeOf38 rfl rfl (fun v _ h => row_adr (n := 5) Con.cells_len (by decide) (by exact ((Con.mem_iff c v).1 h.1).1) hx1) (by omega) (by first | omega | (simp; done))) rfl ?_)
   refine ops_val (yld_loadRS (ad := (Con.ad c)) (us := Con.cells x1) Tryz.isAgg38 Tryz.sizeOf38 rfl (fun v _ h => by exact ((Con.mem_iff c v).1 h.1).1) (Con.cells_len _) (row_cells Con.cells_len hx1)) rfl ?_
   refine ops_call (ih x1 (by omega) (Con.ok_part hok hmx1) (by omega)) rfl pf_nil (fun v _ h => by exact ⟨(Con.mem_part (c := c) h.1 hmx1), trivial⟩) rfl fun _ => ?_
   refine ops_val (yld_arith rfl rfl rfl (wrap64 (by omega) (by omega))) rfl ?_
   refine ops_val (yld_max rfl rfl) rfl ?_
   refine ops_val (yld_assign rfl) rfl (ops_nil (fin_next rfl (run_region (ops_val (yld_move rfl) rfl (ops_val (yld_arith rfl rfl rfl (wrap64 (by omega) (by omega))) rfl ?_)))))
   refine ops_val (yld_assign rfl) rfl (ops_nil (fin_inv rfl ?_))
   have hst := Con.deps_step hx1
   exact ok_again ⟨i + 1, hlx1⟩ (by dsimp only; omega) ⟨rfl, (get_int rfl (by dsimp only; rw [hst]; split <;> omega)), rfl, trivial⟩ (.refl _) (fun _ _ h => h)

theorem rShape_c (c : Con) : Fn0 Tryz.prog 137 #[Con.val c] (.bool c.shapeS) := by
 refine tri_of_body Tryz.func137 rfl rfl Tryz.ntmps137 rfl fun v0 => ?_
 refine run_seq (run_region (ops_box rfl rfl fun b1 => ?_))
 refine ops_val (yld_assign rfl) rfl (ops_nil (fin_next rfl (run_seq (run_region (ops_val (yld_field Tryz.runUnderlying38 rfl rfl rfl Tryz.sizeOf3) rfl ?_)))))
 refine ops_val (yld_load 0 Tryz.isAgg3 rfl rfl rfl) rfl ?_
 refine ops_valB (yld_eql rfl rfl) rfl fun r1 hr1 => ?_
 refine ops_val (yld_move rfl) rfl ?_
 refine ops_cut 4 (((Con.lo c) == 0) && ((Con.hi c) == 0)) (fun r => [(0, Con.val c), (1, .pointer (some ⟨b1, 0, none⟩)), (2, .bool false), (11, .bool r)]) ?_ fun r2 hr2 => ?_
 ·
  cases r1
  ·
   have qr2 := hr1
   replace hr1 := ne_of_beq_false hr1
   refine ops_no rfl rfl rfl rfl (ops_no rfl rfl rfl rfl (ops_no rfl rfl rfl rfl (ops_val (yld_pick_f rfl rfl) rfl ?_)))
   refine ops_nil (fin_inv rfl ?_)
   exact met ⟨rfl, rfl, rfl, (get_bool rfl (jaf qr2)), trivial⟩
  ·
   have qr2 := hr1
   replace hr1 := eq_of_beq hr1
   refine ops_yes rfl rfl (ops_val (yld_field Tryz.runUnderlying38 rfl rfl rfl Tryz.sizeOf3) rfl ?_)
   refine ops_yes rfl rfl (ops_val (yld_load 0 Tryz.isAgg3 rfl rfl rfl) rfl ?_)
   refine ops_yes rfl rfl (ops_valB (yld_eql rfl rfl) rfl fun r3 hr3 => ?_)
   refine ops_val (yld_pick_t rfl rfl) rfl ?_
   refine ops_nil (fin_inv rfl ?_)
   exact met ⟨rfl, rfl, rfl, (get_bool rfl (jat qr2 hr3)), trivial⟩
 ·
  refine ops_val (yld_assign rfl) rfl (ops_nil (fin_next rfl (run_seq (run_seq (run_region (ops_val (yld_field Tryz.runUnderlying38 rfl rfl rfl Tryz.sizeOf3) rfl ?_))))))
  refine ops_val (yld_load 0 Tryz.isAgg3 rfl rfl rfl) rfl ?_
  refine ops_nil (fin_next rfl (run_block (run_seq (run_seq (run_region (ops_valB (yld_eql rfl rfl) rfl fun r4 hr4 => ?_))))))
  refine ops_val (yld_assign rfl) rfl (ops_nil (fin_next rfl ?_))
  cases r4
  ·
   replace hr4 := ne_of_beq_false hr4
   refine run_cond_f rfl (run_region (ops_valB (yld_eql rfl rfl) rfl fun r5 hr5 => ?_))
   refine ops_val (yld_assign rfl) rfl (ops_nil (fin_next rfl ?_))
   cases r5
   ·
    replace hr5 := ne_of_beq_false hr5
    refine run_cond_f rfl (run_seq (run_seq (run_region (ops_valB (yld_eql rfl rfl) rfl fun r6 hr6 => ?_))))
    refine ops_val (yld_assign rfl) rfl (ops_nil (fin_next rfl ?_))
    cases r6
    ·
     replace hr6 := ne_of_beq_false hr6
     refine run_cond_f rfl (run_region (ops_valB (yld_eql rfl rfl) rfl fun r7 hr7 => ?_))
     refine ops_val (yld_assign rfl) rfl (ops_nil (fin_next rfl ?_))
     cases r7
     ·
      replace hr7 := ne_of_beq_false hr7
      refine run_cond_f rfl (run_seq (run_region (ops_valB (yld_eql rfl rfl) rfl fun r8 hr8 => ?_)))
      refine ops_val (yld_assign rfl) rfl (ops_nil (fin_next rfl ?_))
      cases r8
      ·
       replace hr8 := ne_of_beq_false hr8
       refine run_cond_f rfl (run_seq (run_region (ops_valB (yld_eql rfl rfl) rfl fun r9 hr9 => ?_)))
       refine ops_val (yld_assign rfl) rfl (ops_nil (fin_next rfl ?_))
       cases r9
       ·
        replace hr9 := ne_of_beq_false hr9
        refine run_cond_f rfl (run_seq (run_region (ops_valB (yld_eql rfl rfl) rfl fun r10 hr10 => ?_)))
        refine ops_val (yld_assign rfl) rfl (ops_nil (fin_next rfl ?_))
        cases r10
        ·
         replace hr10 := ne_of_beq_false hr10
         refine run_cond_f rfl (run_skip (fin_next rfl (run_seq (run_region (ops_val (yld_assign rfl) rfl (ops_nil (fin_next rfl ?_)))))))
         refine run_ret ?_
         exact ret1 Tryz.results137 () (get_bool rfl (by unfold Con.shapeS; subst_vars; simp [*])) pf_nil (fun _ _ _ => trivial)
        ·
         replace hr10 := eq_of_beq hr10
         refine run_cond_t rfl (run_seq (run_region (ops_val (yld_field Tryz.runUnderlying38 rfl rfl rfl Tryz.sizeOf36) rfl ?_)))
         refine ops_val (yld_load 0 Tryz.isAgg36 rfl rfl rfl) rfl ?_
         refine ops_val (yld_lenS Tryz.runUnderlying36 rfl) rfl ?_
         refine ops_valB (yld_eql rfl rfl) rfl fun r11 hr11 => ?_
         refine ops_val (yld_move rfl) rfl ?_
         refine ops_cut 4 (((List.length (Con.parts c) : Int) == 0) && (decide ((-1099511627776) ≤ (Con.lo c)))) (fun r => [(0, Con.val c), (1, .pointer (some ⟨b1, 0, none⟩)), (2, .bool false), (11, .bool r2), (3, .bool r2), (12, .pointer (some ⟨b1, 0, none⟩)), (13, .int .i64 (Con.kind c)), (15, .bool false), (14, .bool false), (16, .bool false), (30, .bool false), (29, .bool false), (31, .bool false), (40, .bool false), (39, .bool false), (60, .bool false), (59, .bool false), (69, .bool true), (68, .bool true), (78, .bool r)]) ?_ fun r12 hr12 => ?_
         ·
          cases r11
          ·
           have qr12 := hr11
           replace hr11 := ne_of_beq_false hr11
           refine ops_no rfl rfl rfl rfl (ops_no rfl rfl rfl rfl (ops_no rfl rfl rfl rfl (ops_val (yld_pick_f rfl rfl) rfl ?_)))
           refine ops_nil (fin_inv rfl ?_)
           exact met ⟨rfl, rfl, rfl, rfl, rfl, rfl, rfl, rfl, rfl, rfl, rfl, rfl, rfl, rfl, rfl, rfl, rfl, rfl, rfl, (get_bool rfl (jaf qr12)), trivial⟩
          ·
           have qr12 := hr11
           replace hr11 := eq_of_beq hr11
           refine ops_yes rfl rfl (ops_val (yld_field Tryz.runUnderlying38 rfl rfl rfl Tryz.sizeOf3) rfl ?_)
           refine ops_yes rfl rfl (ops_val (yld_load 0 Tryz.isAgg3 rfl rfl rfl) rfl ?_)
           refine ops_yes rfl rfl (ops_valB (yld_geq rfl rfl) rfl fun r13 hr13 => ?_)
           refine ops_val (yld_pick_t rfl rfl) rfl ?_
           refine ops_nil (fin_inv rfl ?_)
           exact met ⟨rfl, rfl, rfl, rfl, rfl, rfl, rfl, rfl, rfl, rfl, rfl, rfl, rfl, rfl, rfl, rfl, rfl, rfl, rfl, (get_bool rfl (jat qr12 hr13)), trivial⟩
         ·
          refine ops_val (yld_move rfl) rfl ?_
          refine ops_cut 6 (((((List.length (Con.parts c) : Int) == 0) && (decide ((-1099511627776) ≤ (Con.lo c))))) && (decide ((Con.lo c) ≤ (Con.hi c)))) (fun r => [(0, Con.val c), (1, .pointer (some ⟨b1, 0, none⟩)), (2, .bool false), (11, .bool r2), (3, .bool r2), (12, .pointer (some ⟨b1, 0, none⟩)), (13, .int .i64 (Con.kind c)), (15, .bool false), (14, .bool false), (16, .bool false), (30, .bool false), (29, .bool false), (31, .bool false), (40, .bool false), (39, .bool false), (60, .bool false), (59, .bool false), (69, .bool true), (68, .bool true), (85, .bool r)]) ?_ fun r14 hr14 => ?_
          ·
           cases r12
           ·
            have qr14 := hr12
            simp at hr12
            refine ops_no rfl rfl rfl rfl (ops_no rfl rfl rfl rfl (ops_no rfl rfl rfl rfl (ops_no rfl rfl rfl rfl (ops_no rfl rfl rfl rfl (ops_val (yld_pick_f rfl rfl) rfl ?_)))))
            refine ops_nil (fin_inv rfl ?_)
            exact met ⟨rfl, rfl, rfl, rfl, rfl, rfl, rfl, rfl, rfl, rfl, rfl, rfl, rfl, rfl, rfl, rfl, rfl, rfl, rfl, (get_bool rfl (jaf qr14)), trivial⟩
           ·
            have qr14 := hr12
            simp at hr12
            refine ops_yes rfl rfl (ops_val (yld_field Tryz.runUnderlying38 rfl rfl rfl Tryz.sizeOf3) rfl ?_)
            refine ops_yes rfl rfl (ops_val (yld_load 0 Tryz.isAgg3 rfl rfl rfl) rfl ?_)
            refine ops_yes rfl rfl (ops_val (yld_field Tryz.runUnderlying38 rfl rfl rfl Tryz.sizeOf3) rfl ?_)
            refine ops_yes rfl rfl (ops_val (yld_load 0 Tryz.isAgg3 rfl rfl rfl) rfl ?_)
            refine ops_yes rfl rfl (ops_valB (yld_leq rfl rfl) rfl fun r15 hr15 => ?_)
            refine ops_val (yld_pick_t rfl rfl) rfl ?_
            refine ops_nil (fin_inv rfl ?_)
            exact met ⟨rfl, rfl, rfl, rfl, rfl, rfl, rfl, rfl, rfl, rfl, rfl, rfl, rfl, rfl, rfl, rfl, rfl, rfl, rfl, (get_bool rfl (jat qr14 hr15)), trivial⟩
          ·
           refine ops_val (yld_move rfl) rfl ?_
           refine ops_cut 4 (((((((List.length (Con.parts c) : Int) == 0) && (decide ((-1099511627776) ≤ (Con.lo c))))) && (decide ((Con.lo c) ≤ (Con.hi c))))) && (decide ((Con.hi c) ≤ 1099511627776))) (fun r => [(0, Con.val c), (1, .pointer (some ⟨b1, 0, none⟩)), (2, .bool false), (11, .bool r2), (3, .bool r2), (12, .pointer (some ⟨b1, 0, none⟩)), (13, .int .i64 (Con.kind c)), (15, .bool false), (14, .bool false), (16, .bool false), (30, .bool false), (29, .bool false), (31, .bool false), (40, .bool false), (39, .bool false), (60, .bool false), (59, .bool false), (69, .bool true), (68, .bool true), (90, .bool r)]) ?_ fun r16 hr16 => ?_
           ·
            cases r14
            ·
             have qr16 := hr14
             simp at hr14
             refine ops_no rfl rfl rfl rfl (ops_no rfl rfl rfl rfl (ops_no rfl rfl rfl rfl (ops_val (yld_pick_f rfl rfl) rfl ?_)))
             refine ops_nil (fin_inv rfl ?_)
             exact met ⟨rfl, rfl, rfl, rfl, rfl, rfl, rfl, rfl, rfl, rfl, rfl, rfl, rfl, rfl, rfl, rfl, rfl, rfl, rfl, (get_bool rfl (jaf qr16)), trivial⟩
            ·
             have qr16 := hr14
             simp at hr14
             refine ops_yes rfl rfl (ops_val (yld_field Tryz.runUnderlying38 rfl rfl rfl Tryz.sizeOf3) rfl ?_)
             refine ops_yes rfl rfl (ops_val (yld_load 0 Tryz.isAgg3 rfl rfl rfl) rfl ?_)
             refine ops_yes rfl rfl (ops_valB (yld_leq rfl rfl) rfl fun r17 hr17 => ?_)
             refine ops_val (yld_pick_t rfl rfl) rfl ?_
             refine ops_nil (fin_inv rfl ?_)
             exact met ⟨rfl, rfl, rfl, rfl, rfl, rfl, rfl, rfl, rfl, rfl, rfl, rfl, rfl, rfl, rfl, rfl, rfl, rfl, rfl, (get_bool rfl (jat qr16 hr17)), trivial⟩
           ·
            refine ops_val (yld_assign rfl) rfl (ops_nil (fin_next rfl (run_ret ?_)))
            exact ret1 Tryz.results137 () (get_bool rfl (by unfold Con.shapeS; subst_vars; simp [*])) pf_nil (fun _ _ _ => trivial)
       ·
        replace hr9 := eq_of_beq hr9
        refine run_cond_t rfl (run_seq (run_region (ops_val (yld_move rfl) rfl (ops_val (yld_move rfl) rfl ?_))))
        refine ops_cut 5 (((((Con.lo c) == 0) && ((Con.hi c) == 0))) && ((List.length (Con.parts c) : Int) == 1)) (fun r => [(0, Con.val c), (1, .pointer (some ⟨b1, 0, none⟩)), (2, .bool false), (11, .bool r2), (3, .bool r2), (12, .pointer (some ⟨b1, 0, none⟩)), (13, .int .i64 (Con.kind c)), (15, .bool false), (14, .bool false), (16, .bool false), (30, .bool false), (29, .bool false), (31, .bool false), (40, .bool false), (39, .bool false), (60, .bool true), (59, .bool true), (67, .bool r)]) ?_ fun r18 hr18 => ?_
        ·
         cases r2
         ·
          have qr18 := hr2
          simp at hr2
          refine ops_no rfl rfl rfl rfl (ops_no rfl rfl rfl rfl (ops_no rfl rfl rfl rfl (ops_no rfl rfl rfl rfl (ops_val (yld_pick_f rfl rfl) rfl ?_))))
          refine ops_nil (fin_inv rfl ?_)
          exact met ⟨rfl, rfl, rfl, rfl, rfl, rfl, rfl, rfl, rfl, rfl, rfl, rfl, rfl, rfl, rfl, rfl, rfl, (get_bool rfl (jaf qr18)), trivial⟩
         ·
          have qr18 := hr2
          simp at hr2
          refine ops_yes rfl rfl (ops_val (yld_field Tryz.runUnderlying38 rfl rfl rfl Tryz.sizeOf36) rfl ?_)
          refine ops_yes rfl rfl (ops_val (yld_load 0 Tryz.isAgg36 rfl rfl rfl) rfl ?_)
          refine ops_yes rfl rfl (ops_val (yld_lenS Tryz.runUnderlying36 rfl) rfl ?_)
          refine ops_yes rfl rfl (ops_valB (yld_eql rfl rfl) rfl fun r19 hr19 => ?_)
          refine ops_val (yld_pick_t rfl rfl) rfl ?_
          refine ops_nil (fin_inv rfl ?_)
          exact met ⟨rfl, rfl, rfl, rfl, rfl, rfl, rfl, rfl, rfl, rfl, rfl, rfl, rfl, rfl, rfl, rfl, rfl, (get_bool rfl (jat qr18 hr19)), trivial⟩
        ·
         refine ops_val (yld_assign rfl) rfl (ops_nil (fin_next rfl (run_ret ?_)))
         exact ret1 Tryz.results137 () (get_bool rfl (by unfold Con.shapeS; subst_vars; simp [*])) pf_nil (fun _ _ _ => trivial)
      ·
       replace hr8 := eq_of_beq hr8
       refine run_cond_t rfl (run_seq (run_region (ops_val (yld_move rfl) rfl (ops_val (yld_move rfl) rfl ?_))))
       refine ops_cut 4 (((((Con.lo c) == 0) && ((Con.hi c) == 0))) && ((Con.name c) == [])) (fun r => [(0, Con.val c), (1, .pointer (some ⟨b1, 0, none⟩)), (2, .bool false), (11, .bool r2), (3, .bool r2), (12, .pointer (some ⟨b1, 0, none⟩)), (13, .int .i64 (Con.kind c)), (15, .bool false), (14, .bool false), (16, .bool false), (30, .bool false), (29, .bool false), (31, .bool false), (40, .bool true), (39, .bool true), (46, .bool r)]) ?_ fun r20 hr20 => ?_
       ·
        cases r2
        ·
         have qr20 := hr2
         simp at hr2
         refine ops_no rfl rfl rfl rfl (ops_no rfl rfl rfl rfl (ops_no rfl rfl rfl rfl (ops_val (yld_pick_f rfl rfl) rfl ?_)))
         refine ops_nil (fin_inv rfl ?_)
         exact met ⟨rfl, rfl, rfl, rfl, rfl, rfl, rfl, rfl, rfl, rfl, rfl, rfl, rfl, rfl, rfl, (get_bool rfl (jaf qr20)), trivial⟩
        ·
         have qr20 := hr2
         simp at hr2
         refine ops_yes rfl rfl (ops_val (yld_field Tryz.runUnderlying38 rfl rfl rfl Tryz.sizeOf9) rfl ?_)
         refine ops_yes rfl rfl (ops_val (yld_load 0 Tryz.isAgg9 rfl rfl rfl) rfl ?_)
         refine ops_yes rfl rfl (ops_valB (yld_seql rfl rfl) rfl fun r21 hr21 => ?_)
         refine ops_val (yld_pick_t rfl rfl) rfl ?_
         refine ops_nil (fin_inv rfl ?_)
         exact met ⟨rfl, rfl, rfl, rfl, rfl, rfl, rfl, rfl, rfl, rfl, rfl, rfl, rfl, rfl, rfl, (get_bool rfl (jat qr20 hr21)), trivial⟩
       ·
        refine ops_val (yld_move rfl) rfl ?_
        refine ops_cut 5 (((((((Con.lo c) == 0) && ((Con.hi c) == 0))) && ((Con.name c) == []))) && (decide (2 ≤ (List.length (Con.parts c) : Int)))) (fun r => [(0, Con.val c), (1, .pointer (some ⟨b1, 0, none⟩)), (2, .bool false), (11, .bool r2), (3, .bool r2), (12, .pointer (some ⟨b1, 0, none⟩)), (13, .int .i64 (Con.kind c)), (15, .bool false), (14, .bool false), (16, .bool false), (30, .bool false), (29, .bool false), (31, .bool false), (40, .bool true), (39, .bool true), (52, .bool r)]) ?_ fun r22 hr22 => ?_
        ·
         cases r20
         ·
          have qr22 := hr20
          simp at hr20
          refine ops_no rfl rfl rfl rfl (ops_no rfl rfl rfl rfl (ops_no rfl rfl rfl rfl (ops_no rfl rfl rfl rfl (ops_val (yld_pick_f rfl rfl) rfl ?_))))
          refine ops_nil (fin_inv rfl ?_)
          exact met ⟨rfl, rfl, rfl, rfl, rfl, rfl, rfl, rfl, rfl, rfl, rfl, rfl, rfl, rfl, rfl, (get_bool rfl (jaf qr22)), trivial⟩
         ·
          have qr22 := hr20
          simp at hr20
          refine ops_yes rfl rfl (ops_val (yld_field Tryz.runUnderlying38 rfl rfl rfl Tryz.sizeOf36) rfl ?_)
          refine ops_yes rfl rfl (ops_val (yld_load 0 Tryz.isAgg36 rfl rfl rfl) rfl ?_)
          refine ops_yes rfl rfl (ops_val (yld_lenS Tryz.runUnderlying36 rfl) rfl ?_)
          refine ops_yes rfl rfl (ops_valB (yld_geq rfl rfl) rfl fun r23 hr23 => ?_)
          refine ops_val (yld_pick_t rfl rfl) rfl ?_
          refine ops_nil (fin_inv rfl ?_)
          exact met ⟨rfl, rfl, rfl, rfl, rfl, rfl, rfl, rfl, rfl, rfl, rfl, rfl, rfl, rfl, rfl, (get_bool rfl (jat qr22 hr23)), trivial⟩
        ·
         refine ops_val (yld_move rfl) rfl ?_
         refine ops_cut 5 (((((((((Con.lo c) == 0) && ((Con.hi c) == 0))) && ((Con.name c) == []))) && (decide (2 ≤ (List.length (Con.parts c) : Int))))) && (decide ((List.length (Con.parts c) : Int) ≤ 8))) (fun r => [(0, Con.val c), (1, .pointer (some ⟨b1, 0, none⟩)), (2, .bool false), (11, .bool r2), (3, .bool r2), (12, .pointer (some ⟨b1, 0, none⟩)), (13, .int .i64 (Con.kind c)), (15, .bool false), (14, .bool false), (16, .bool false), (30, .bool false), (29, .bool false), (31, .bool false), (40, .bool true), (39, .bool true), (58, .bool r)]) ?_ fun r24 hr24 => ?_
         ·
          cases r22
          ·
           have qr24 := hr22
           simp at hr22
           refine ops_no rfl rfl rfl rfl (ops_no rfl rfl rfl rfl (ops_no rfl rfl rfl rfl (ops_no rfl rfl rfl rfl (ops_val (yld_pick_f rfl rfl) rfl ?_))))
           refine ops_nil (fin_inv rfl ?_)
           exact met ⟨rfl, rfl, rfl, rfl, rfl, rfl, rfl, rfl, rfl, rfl, rfl, rfl, rfl, rfl, rfl, (get_bool rfl (jaf qr24)), trivial⟩
          ·
           have qr24 := hr22
           simp at hr22
           refine ops_yes rfl rfl (ops_val (yld_field Tryz.runUnderlying38 rfl rfl rfl Tryz.sizeOf36) rfl ?_)
           refine ops_yes rfl rfl (ops_val (yld_load 0 Tryz.isAgg36 rfl rfl rfl) rfl ?_)
           refine ops_yes rfl rfl (ops_val (yld_lenS Tryz.runUnderlying36 rfl) rfl ?_)
           refine ops_yes rfl rfl (ops_valB (yld_leq rfl rfl) rfl fun r25 hr25 => ?_)
           refine ops_val (yld_pick_t rfl rfl) rfl ?_
           refine ops_nil (fin_inv rfl ?_)
           exact met ⟨rfl, rfl, rfl, rfl, rfl, rfl, rfl, rfl, rfl, rfl, rfl, rfl, rfl, rfl, rfl, (get_bool rfl (jat qr24 hr25)), trivial⟩
         ·
          refine ops_val (yld_assign rfl) rfl (ops_nil (fin_next rfl (run_ret ?_)))
          exact ret1 Tryz.results137 () (get_bool rfl (by unfold Con.shapeS; subst_vars; simp [*])) pf_nil (fun _ _ _ => trivial)
     ·
      replace hr7 := eq_of_beq hr7
      refine run_cond_t rfl (run_seq (run_region (ops_val (yld_move rfl) rfl (ops_val (yld_move rfl) rfl ?_))))
      refine ops_cut 5 (((((Con.lo c) == 0) && ((Con.hi c) == 0))) && ((List.length (Con.parts c) : Int) == 0)) (fun r => [(0, Con.val c), (1, .pointer (some ⟨b1, 0, none⟩)), (2, .bool false), (11, .bool r2), (3, .bool r2), (12, .pointer (some ⟨b1, 0, none⟩)), (13, .int .i64 (Con.kind c)), (15, .bool false), (14, .bool false), (16, .bool false), (30, .bool false), (29, .bool true), (31, .bool true), (38, .bool r)]) ?_ fun r26 hr26 => ?_
      ·
       cases r2
       ·
        have qr26 := hr2
        simp at hr2
        refine ops_no rfl rfl rfl rfl (ops_no rfl rfl rfl rfl (ops_no rfl rfl rfl rfl (ops_no rfl rfl rfl rfl (ops_val (yld_pick_f rfl rfl) rfl ?_))))
        refine ops_nil (fin_inv rfl ?_)
        exact met ⟨rfl, rfl, rfl, rfl, rfl, rfl, rfl, rfl, rfl, rfl, rfl, rfl, rfl, (get_bool rfl (jaf qr26)), trivial⟩
       ·
        have qr26 := hr2
        simp at hr2
        refine ops_yes rfl rfl (ops_val (yld_field Tryz.runUnderlying38 rfl rfl rfl Tryz.sizeOf36) rfl ?_)
        refine ops_yes rfl rfl (ops_val (yld_load 0 Tryz.isAgg36 rfl rfl rfl) rfl ?_)
        refine ops_yes rfl rfl (ops_val (yld_lenS Tryz.runUnderlying36 rfl) rfl ?_)
        refine ops_yes rfl rfl (ops_valB (yld_eql rfl rfl) rfl fun r27 hr27 => ?_)
        refine ops_val (yld_pick_t rfl rfl) rfl ?_
        refine ops_nil (fin_inv rfl ?_)
        exact met ⟨rfl, rfl, rfl, rfl, rfl, rfl, rfl, rfl, rfl, rfl, rfl, rfl, rfl, (get_bool rfl (jat qr26 hr27)), trivial⟩
      ·
       refine ops_val (yld_assign rfl) rfl (ops_nil (fin_next rfl (run_ret ?_)))
       exact ret1 Tryz.results137 () (get_bool rfl (by unfold Con.shapeS; subst_vars; simp [*])) pf_nil (fun _ _ _ => trivial)
    ·
     replace hr6 := eq_of_beq hr6
     refine run_cond_t rfl (run_skip (fin_next rfl (run_cond_t rfl (run_seq (run_region (ops_val (yld_move rfl) rfl (ops_val (yld_move rfl) rfl ?_)))))))
     refine ops_cut 5 (((((Con.lo c) == 0) && ((Con.hi c) == 0))) && ((List.length (Con.parts c) : Int) == 0)) (fun r => [(0, Con.val c), (1, .pointer (some ⟨b1, 0, none⟩)), (2, .bool false), (11, .bool r2), (3, .bool r2), (12, .pointer (some ⟨b1, 0, none⟩)), (13, .int .i64 (Con.kind c)), (15, .bool false), (14, .bool false), (16, .bool false), (30, .bool true), (29, .bool true), (38, .bool r)]) ?_ fun r28 hr28 => ?_
     ·
      cases r2
      ·
       have qr28 := hr2
       simp at hr2
       refine ops_no rfl rfl rfl rfl (ops_no rfl rfl rfl rfl (ops_no rfl rfl rfl rfl (ops_no rfl rfl rfl rfl (ops_val (yld_pick_f rfl rfl) rfl ?_))))
       refine ops_nil (fin_inv rfl ?_)
       exact met ⟨rfl, rfl, rfl, rfl, rfl, rfl, rfl, rfl, rfl, rfl, rfl, rfl, (get_bool rfl (jaf qr28)), trivial⟩
      ·
       have qr28 := hr2
       simp at hr2
       refine ops_yes rfl rfl (ops_val (yld_field Tryz.runUnderlying38 rfl rfl rfl Tryz.sizeOf36) rfl ?_)
       refine ops_yes rfl rfl (ops_val (yld_load 0 Tryz.isAgg36 rfl rfl rfl) rfl ?_)
       refine ops_yes rfl rfl (ops_val (yld_lenS Tryz.runUnderlying36 rfl) rfl ?_)
       refine ops_yes rfl rfl (ops_valB (yld_eql rfl rfl) rfl fun r29 hr29 => ?_)
       refine ops_val (yld_pick_t rfl rfl) rfl ?_
       refine ops_nil (fin_inv rfl ?_)
       exact met ⟨rfl, rfl, rfl, rfl, rfl, rfl, rfl, rfl, rfl, rfl, rfl, rfl, (get_bool rfl (jat qr28 hr29)), trivial⟩
     ·
      refine ops_val (yld_assign rfl) rfl (ops_nil (fin_next rfl (run_ret ?_)))
      exact ret1 Tryz.results137 () (get_bool rfl (by unfold Con.shapeS; subst_vars; simp [*])) pf_nil (fun _ _ _ => trivial)
   ·
    replace hr5 := eq_of_beq hr5
    refine run_cond_t rfl (run_seq (run_region (ops_val (yld_move rfl) rfl (ops_val (yld_move rfl) rfl ?_))))
    refine ops_cut 4 (((((Con.lo c) == 0) && ((Con.hi c) == 0))) && ((Con.name c) == [])) (fun r => [(0, Con.val c), (1, .pointer (some ⟨b1, 0, none⟩)), (2, .bool false), (11, .bool r2), (3, .bool r2), (12, .pointer (some ⟨b1, 0, none⟩)), (13, .int .i64 (Con.kind c)), (15, .bool false), (14, .bool true), (16, .bool true), (22, .bool r)]) ?_ fun r30 hr30 => ?_
    ·
     cases r2
     ·
      have qr30 := hr2
      simp at hr2
      refine ops_no rfl rfl rfl rfl (ops_no rfl rfl rfl rfl (ops_no rfl rfl rfl rfl (ops_val (yld_pick_f rfl rfl) rfl ?_)))
      refine ops_nil (fin_inv rfl ?_)
      exact met ⟨rfl, rfl, rfl, rfl, rfl, rfl, rfl, rfl, rfl, rfl, (get_bool rfl (jaf qr30)), trivial⟩
     ·
      have qr30 := hr2
      simp at hr2
      refine ops_yes rfl rfl (ops_val (yld_field Tryz.runUnderlying38 rfl rfl rfl Tryz.sizeOf9) rfl ?_)
      refine ops_yes rfl rfl (ops_val (yld_load 0 Tryz.isAgg9 rfl rfl rfl) rfl ?_)
      refine ops_yes rfl rfl (ops_valB (yld_seql rfl rfl) rfl fun r31 hr31 => ?_)
      refine ops_val (yld_pick_t rfl rfl) rfl ?_
      refine ops_nil (fin_inv rfl ?_)
      exact met ⟨rfl, rfl, rfl, rfl, rfl, rfl, rfl, rfl, rfl, rfl, (get_bool rfl (jat qr30 hr31)), trivial⟩
    ·
     refine ops_val (yld_move rfl) rfl ?_
     refine ops_cut 5 (((((((Con.lo c) == 0) && ((Con.hi c) == 0))) && ((Con.name c) == []))) && ((List.length (Con.parts c) : Int) == 0)) (fun r => [(0, Con.val c), (1, .pointer (some ⟨b1, 0, none⟩)), (2, .bool false), (11, .bool r2), (3, .bool r2), (12, .pointer (some ⟨b1, 0, none⟩)), (13, .int .i64 (Con.kind c)), (15, .bool false), (14, .bool true), (16, .bool true), (28, .bool r)]) ?_ fun r32 hr32 => ?_
     ·
      cases r30
      ·
       have qr32 := hr30
       simp at hr30
       refine ops_no rfl rfl rfl rfl (ops_no rfl rfl rfl rfl (ops_no rfl rfl rfl rfl (ops_no rfl rfl rfl rfl (ops_val (yld_pick_f rfl rfl) rfl ?_))))
       refine ops_nil (fin_inv rfl ?_)
       exact met ⟨rfl, rfl, rfl, rfl, rfl, rfl, rfl, rfl, rfl, rfl, (get_bool rfl (jaf qr32)), trivial⟩
      ·
       have qr32 := hr30
       simp at hr30
       refine ops_yes rfl rfl (ops_val (yld_field Tryz.runUnderlying38 rfl rfl rfl Tryz.sizeOf36) rfl ?_)
       refine ops_yes rfl rfl (ops_val (yld_load 0 Tryz.isAgg36 rfl rfl rfl) rfl ?_)
       refine ops_yes rfl rfl (ops_val (yld_lenS Tryz.runUnderlying36 rfl) rfl ?_)
       refine ops_yes rfl rfl (ops_valB (yld_eql rfl rfl) rfl fun r33 hr33 => ?_)
       refine ops_val (yld_pick_t rfl rfl) rfl ?_
       refine ops_nil (fin_inv rfl ?_)
       exact met ⟨rfl, rfl, rfl, rfl, rfl, rfl, rfl, rfl, rfl, rfl, (get_bool rfl (jat qr32 hr33)), trivial⟩
     ·
      refine ops_val (yld_assign rfl) rfl (ops_nil (fin_next rfl (run_ret ?_)))
      exact ret1 Tryz.results137 () (get_bool rfl (by unfold Con.shapeS; subst_vars; simp [*])) pf_nil (fun _ _ _ => trivial)
  ·
   replace hr4 := eq_of_beq hr4
   refine run_cond_t rfl (run_skip (fin_next rfl (run_cond_t rfl (run_seq (run_region (ops_val (yld_move rfl) rfl (ops_val (yld_move rfl) rfl ?_)))))))
   refine ops_cut 4 (((((Con.lo c) == 0) && ((Con.hi c) == 0))) && ((Con.name c) == [])) (fun r => [(0, Con.val c), (1, .pointer (some ⟨b1, 0, none⟩)), (2, .bool false), (11, .bool r2), (3, .bool r2), (12, .pointer (some ⟨b1, 0, none⟩)), (13, .int .i64 (Con.kind c)), (15, .bool true), (14, .bool true), (22, .bool r)]) ?_ fun r34 hr34 => ?_
   ·
    cases r2
    ·
     have qr34 := hr2
     simp at hr2
     refine ops_no rfl rfl rfl rfl (ops_no rfl rfl rfl rfl (ops_no rfl rfl rfl rfl (ops_val (yld_pick_f rfl rfl) rfl ?_)))
     refine ops_nil (fin_inv rfl ?_)
     exact met ⟨rfl, rfl, rfl, rfl, rfl, rfl, rfl, rfl, rfl, (get_bool rfl (jaf qr34)), trivial⟩
    ·
     have qr34 := hr2
     simp at hr2
     refine ops_yes rfl rfl (ops_val (yld_field Tryz.runUnderlying38 rfl rfl rfl Tryz.sizeOf9) rfl ?_)
     refine ops_yes rfl rfl (ops_val (yld_load 0 Tryz.isAgg9 rfl rfl rfl) rfl ?_)
     refine ops_yes rfl rfl (ops_valB (yld_seql rfl rfl) rfl fun r35 hr35 => ?_)
     refine ops_val (yld_pick_t rfl rfl) rfl ?_
     refine ops_nil (fin_inv rfl ?_)
     exact met ⟨rfl, rfl, rfl, rfl, rfl, rfl, rfl, rfl, rfl, (get_bool rfl (jat qr34 hr35)), trivial⟩
   ·
    refine ops_val (yld_move rfl) rfl ?_
    refine ops_cut 5 (((((((Con.lo c) == 0) && ((Con.hi c) == 0))) && ((Con.name c) == []))) && ((List.length (Con.parts c) : Int) == 0)) (fun r => [(0, Con.val c), (1, .pointer (some ⟨b1, 0, none⟩)), (2, .bool false), (11, .bool r2), (3, .bool r2), (12, .pointer (some ⟨b1, 0, none⟩)), (13, .int .i64 (Con.kind c)), (15, .bool true), (14, .bool true), (28, .bool r)]) ?_ fun r36 hr36 => ?_
    ·
     cases r34
     ·
      have qr36 := hr34
      simp at hr34
      refine ops_no rfl rfl rfl rfl (ops_no rfl rfl rfl rfl (ops_no rfl rfl rfl rfl (ops_no rfl rfl rfl rfl (ops_val (yld_pick_f rfl rfl) rfl ?_))))
      refine ops_nil (fin_inv rfl ?_)
      exact met ⟨rfl, rfl, rfl, rfl, rfl, rfl, rfl, rfl, rfl, (get_bool rfl (jaf qr36)), trivial⟩
     ·
      have qr36 := hr34
      simp at hr34
      refine ops_yes rfl rfl (ops_val (yld_field Tryz.runUnderlying38 rfl rfl rfl Tryz.sizeOf36) rfl ?_)
      refine ops_yes rfl rfl (ops_val (yld_load 0 Tryz.isAgg36 rfl rfl rfl) rfl ?_)
      refine ops_yes rfl rfl (ops_val (yld_lenS Tryz.runUnderlying36 rfl) rfl ?_)
      refine ops_yes rfl rfl (ops_valB (yld_eql rfl rfl) rfl fun r37 hr37 => ?_)
      refine ops_val (yld_pick_t rfl rfl) rfl ?_
      refine ops_nil (fin_inv rfl ?_)
      exact met ⟨rfl, rfl, rfl, rfl, rfl, rfl, rfl, rfl, rfl, (get_bool rfl (jat qr36 hr37)), trivial⟩
    ·
     refine ops_val (yld_assign rfl) rfl (ops_nil (fin_next rfl (run_ret ?_)))
     exact ret1 Tryz.results137 () (get_bool rfl (by unfold Con.shapeS; subst_vars; simp [*])) pf_nil (fun _ _ _ => trivial)

theorem rNamed_c (c : Con) : Fn0 Tryz.prog 138 #[Con.val c] (.bool c.namedS) := by
 refine tri_of_body Tryz.func138 rfl rfl Tryz.ntmps138 rfl fun v0 => ?_
 refine run_seq (run_region (ops_box rfl rfl fun b1 => ?_))
 refine ops_val (yld_assign rfl) rfl (ops_nil (fin_next rfl (run_seq (run_seq (run_region (ops_val (yld_field Tryz.runUnderlying38 rfl rfl rfl Tryz.sizeOf3) rfl ?_))))))
 refine ops_val (yld_load 0 Tryz.isAgg3 rfl rfl rfl) rfl ?_
 refine ops_nil (fin_next rfl (run_block (run_seq (run_seq (run_region (ops_valB (yld_eql rfl rfl) rfl fun r1 hr1 => ?_))))))
 refine ops_val (yld_assign rfl) rfl (ops_nil (fin_next rfl ?_))
 cases r1
 ·
  replace hr1 := ne_of_beq_false hr1
  refine run_cond_f rfl (run_seq (run_region (ops_valB (yld_eql rfl rfl) rfl fun r2 hr2 => ?_)))
  refine ops_val (yld_assign rfl) rfl (ops_nil (fin_next rfl ?_))
  cases r2
  ·
   replace hr2 := ne_of_beq_false hr2
   refine run_cond_f rfl (run_region (ops_valB (yld_eql rfl rfl) rfl fun r3 hr3 => ?_))
   refine ops_val (yld_assign rfl) rfl (ops_nil (fin_next rfl ?_))
   cases r3
   ·
    replace hr3 := ne_of_beq_false hr3
    refine run_cond_f rfl (run_seq (run_region (ops_valB (yld_eql rfl rfl) rfl fun r4 hr4 => ?_)))
    refine ops_val (yld_assign rfl) rfl (ops_nil (fin_next rfl ?_))
    cases r4
    ·
     replace hr4 := ne_of_beq_false hr4
     refine run_cond_f rfl (run_skip (fin_next rfl (run_seq (run_region (ops_val (yld_assign rfl) rfl (ops_nil (fin_next rfl ?_)))))))
     refine run_ret ?_
     exact ret1 Tryz.results138 () (get_bool rfl (by unfold Con.namedS; subst_vars; simp [*])) pf_nil (fun _ _ _ => trivial)
    ·
     replace hr4 := eq_of_beq hr4
     refine run_cond_t rfl (run_seq (run_region (ops_val (yld_field Tryz.runUnderlying38 rfl rfl rfl Tryz.sizeOf9) rfl ?_)))
     refine ops_val (yld_load 0 Tryz.isAgg9 rfl rfl rfl) rfl ?_
     refine ops_callB (rPerson_c _) rfl pf_nil (fun _ _ _ => by exact trivial) rfl fun r5 hr5 => ?_
     refine ops_val (yld_assign rfl) rfl (ops_nil (fin_next rfl (run_ret ?_)))
     exact ret1 Tryz.results138 () (get_bool rfl (by unfold Con.namedS; subst_vars; simp [*])) pf_nil (fun _ _ _ => trivial)
   ·
    replace hr3 := eq_of_beq hr3
    refine run_cond_t rfl (run_seq (run_region (ops_val (yld_field Tryz.runUnderlying38 rfl rfl rfl Tryz.sizeOf9) rfl ?_)))
    refine ops_val (yld_load 0 Tryz.isAgg9 rfl rfl rfl) rfl ?_
    refine ops_callB (rPlain_c _) rfl pf_nil (fun _ _ _ => by exact trivial) rfl fun r6 hr6 => ?_
    refine ops_val (yld_assign rfl) rfl (ops_nil (fin_next rfl (run_ret ?_)))
    exact ret1 Tryz.results138 () (get_bool rfl (by unfold Con.namedS; subst_vars; simp [*])) pf_nil (fun _ _ _ => trivial)
  ·
   replace hr2 := eq_of_beq hr2
   refine run_cond_t rfl (run_skip (fin_next rfl (run_cond_t rfl (run_seq (run_region (ops_val (yld_field Tryz.runUnderlying38 rfl rfl rfl Tryz.sizeOf9) rfl ?_))))))
   refine ops_val (yld_load 0 Tryz.isAgg9 rfl rfl rfl) rfl ?_
   refine ops_callB (rPlain_c _) rfl pf_nil (fun _ _ _ => by exact trivial) rfl fun r7 hr7 => ?_
   refine ops_val (yld_assign rfl) rfl (ops_nil (fin_next rfl (run_ret ?_)))
   exact ret1 Tryz.results138 () (get_bool rfl (by unfold Con.namedS; subst_vars; simp [*])) pf_nil (fun _ _ _ => trivial)
 ·
  replace hr1 := eq_of_beq hr1
  refine run_cond_t rfl (run_skip (fin_next rfl (run_cond_t rfl (run_seq (run_region (ops_val (yld_field Tryz.runUnderlying38 rfl rfl rfl Tryz.sizeOf9) rfl ?_))))))
  refine ops_val (yld_load 0 Tryz.isAgg9 rfl rfl rfl) rfl ?_
  refine ops_callB (rPlain_c _) rfl pf_nil (fun _ _ _ => by exact trivial) rfl fun r8 hr8 => ?_
  refine ops_val (yld_assign rfl) rfl (ops_nil (fin_next rfl (run_ret ?_)))
  exact ret1 Tryz.results138 () (get_bool rfl (by unfold Con.namedS; subst_vars; simp [*])) pf_nil (fun _ _ _ => trivial)

theorem rWalk_c : ∀ (m : Nat) (c : Con), c.sz ≤ m → c.ok → Tri Tryz.prog 92 #[Con.val c] [] [Con.memF c] (fun _ : Unit => .int .i64 c.firstErr) (fun _ => []) (fun _ => []) := by
 intro m
 induction m with
 | zero => intro c h; have := c.sz_pos; omega
 | succ m ih =>
  intro c hm hok
  have hpl := Con.ok_len hok
  refine tri_of_body Tryz.func92 rfl rfl Tryz.ntmps92 rfl fun v0 => ?_
  refine run_seq (run_region (ops_box rfl rfl fun b1 => ?_))
  refine ops_val (yld_assign rfl) rfl (ops_nil (fin_next rfl (run_seq (run_seq (run_region (ops_val (yld_loadS 0 Tryz.isAgg38 Tryz.sizeOf38 rfl rfl rfl) rfl ?_))))))
  refine ops_callB (rShape_c c) rfl pf_nil (fun _ _ _ => by exact trivial) rfl fun r1 hr1 => ?_
  refine ops_val (yld_not rfl) rfl ?_
  refine ops_nil (fin_next rfl ?_)
  cases r1
  ·
   refine run_cond_t rfl (run_seq (run_region (ops_val (yld_assign rfl) rfl (ops_nil (fin_next rfl (run_ret ?_))))))
   exact ret1 Tryz.results92 () (get_int rfl (by rw [Con.firstErr_eq, Con.fieldErr_ref]; simp [*])) pf_nil (fun _ _ _ => trivial)
  ·
   refine run_cond_f rfl (run_skip (fin_next rfl (run_seq (run_seq (run_region (ops_val (yld_loadS 0 Tryz.isAgg38 Tryz.sizeOf38 rfl rfl rfl) rfl ?_))))))
   refine ops_callB (rNamed_c c) rfl pf_nil (fun _ _ _ => by exact trivial) rfl fun r2 hr2 => ?_
   refine ops_val (yld_not rfl) rfl ?_
   refine ops_nil (fin_next rfl ?_)
   cases r2
   ·
    refine run_cond_t rfl (run_seq (run_region (ops_val (yld_assign rfl) rfl (ops_nil (fin_next rfl (run_ret ?_))))))
    exact ret1 Tryz.results92 () (get_int rfl (by rw [Con.firstErr_eq, Con.fieldErr_ref]; simp [*])) pf_nil (fun _ _ _ => trivial)
   ·
    refine run_cond_f rfl (run_skip (fin_next rfl (run_seq (run_seq (run_region (ops_val (yld_assign rfl) rfl (ops_nil ?_)))))))
    refine fin_next rfl (run_block ?_)
    have hfe : c.fieldErr = 0 := by rw [Con.fieldErr_ref]; simp [*]
    refine ok_fr [(1, .pointer (some ⟨b1, 0, none⟩)), (3, .int .i64 ((0 : Nat) : Int))] ⟨rfl, rfl, trivial⟩ ?_
    refine run_loop (ι := {q : Nat // q ≤ c.parts.length ∧ Con.firstErr.firstErrs (c.parts.take q) = 0}) (fun i => [(1, .pointer (some ⟨b1, 0, none⟩)), (3, .int .i64 (i.1 : Int))]) (fun _ => _) (fun _ => _) (fun i => c.parts.length - i.1) ⟨0, by simp, rfl⟩ ?_
    rintro ⟨i, hk⟩
    refine ok_fr [(1, .pointer (some ⟨b1, 0, none⟩)), (3, .int .i64 (i : Int))] ⟨rfl, rfl, trivial⟩ ?_
    refine run_seq (run_seq (run_region (ops_val (yld_move rfl) rfl (ops_val (yld_field Tryz.runUnderlying38 rfl rfl rfl Tryz.sizeOf36) rfl ?_))))
    refine ops_val (yld_load 0 Tryz.isAgg36 rfl rfl rfl) rfl ?_
    refine ops_val (yld_lenS Tryz.runUnderlying36 rfl) rfl ?_
    refine ops_valB (yld_lss rfl rfl) rfl fun r3 hr3 => ?_
    refine ops_nil (fin_next rfl ?_)
    cases r3
    ·
     replace hr3 := of_decide_eq_false hr3
     refine run_cond_f rfl (run_exit rfl (fin_next rfl (run_seq (run_region (ops_val (yld_assign rfl) rfl (ops_nil (fin_next rfl ?_)))))))
     refine run_ret ?_
     exact ret1 Tryz.results92 () (get_int rfl (by have := hk.2; rw [List.take_of_length_le (by omega)] at this; rw [Con.firstErr_eq, if_pos hfe, this])) pf_nil (fun _ _ _ => trivial)
    ·
     replace hr3 := of_decide_eq_true hr3
     have hlx1 : i < List.length (Con.parts c) := by omega
     obtain ⟨x1, hx1⟩ : ∃ e0, (Con.parts c)[i]? = some e0 := ⟨_, List.getElem?_eq_getElem hlx1⟩
     have hmx1 : x1 ∈ (Con.parts c) := List.mem_of_getElem? hx1
     have hsp := Con.sz_part hmx1
     refine run_cond_t rfl (run_skip (fin_next rfl (run_seq (run_block (run_seq (run_region (ops_val (yld_field Tryz.runUnderlying38 rfl rfl rfl Tryz.sizeOf36) rfl ?_)))))))
     refine ops_val (yld_load 0 Tryz.isAgg36 rfl rfl rfl) rfl ?_
     refine ops_val (yld_move rfl) rfl (ops_val (yld_indexR Tryz.runUnderlying36 Tryz.sizeOf38 rfl rfl (fun v _ h => row_adr (n := 5) Con.cells_len (by decide) (by exact ((Con.mem_iff c v).1 h.1).1) hx1) (by omega) (by first | omega | (simp; done))) rfl ?_)
     refine ops_val (yld_loadRS (ad := (Con.ad c)) (us := Con.cells x1) Tryz.isAgg38 Tryz.sizeOf38 rfl (fun v _ h => by exact ((Con.mem_iff c v).1 h.1).1) (Con.cells_len _) (row_cells Con.cells_len hx1)) rfl ?_
     refine ops_call (ih x1 (by omega) (Con.ok_part hok hmx1)) rfl pf_nil (fun v _ h => by exact ⟨(Con.mem_part (c := c) h.1 hmx1), trivial⟩) rfl fun _ => ?_
     refine ops_val (yld_assign rfl) rfl (ops_nil (fin_next rfl (run_seq (run_region (ops_val (yld_move rfl) rfl (ops_valB (yld_neq rfl rfl) rfl fun r4 hr4 => ?_))))))
     refine ops_nil (fin_next rfl ?_)
     cases r4
     ·
      replace hr4 := eq_of_bne hr4
      refine run_cond_f rfl (run_skip (fin_next rfl (run_region (ops_val (yld_move rfl) rfl (ops_val (yld_arith rfl rfl rfl (wrap64 (by omega) (by omega))) rfl ?_)))))
      refine ops_val (yld_assign rfl) rfl (ops_nil (fin_inv rfl ?_))
      exact ok_again ⟨i + 1, hlx1, Con.firstErrs_step hk.2 hx1 (by assumption)⟩ (by simp; omega) ⟨rfl, rfl, trivial⟩ (.refl _) (fun _ _ h => h)
     ·
      replace hr4 := ne_of_bne hr4
      refine run_cond_t rfl (run_seq (run_region (ops_val (yld_move rfl) rfl (ops_val (yld_assign rfl) rfl (ops_nil (fin_next rfl (run_ret ?_)))))))
      exact ret1 Tryz.results92 () (get_int rfl (by rw [Con.firstErr_eq c, if_pos hfe, Con.firstErrs_first hk.2 hx1 (by assumption)])) pf_nil (fun _ _ _ => trivial)

theorem rCheckConcept_c (c : Con) (hok : c.ok) (hz : c.sz ≤ 1000) : Tri Tryz.prog 46 #[Con.val c] [] [Con.memF c] (fun _ : Unit => .int .i64 c.check) (fun _ => []) (fun _ => []) := by
  refine tri_of_body Tryz.func46 rfl rfl Tryz.ntmps46 rfl fun v0 => ?_
  refine run_seq (run_region (ops_box rfl rfl fun b1 => ?_))
  refine ops_val (yld_assign rfl) rfl (ops_nil (fin_next rfl (run_seq (run_seq (run_region (ops_val (yld_loadS 0 Tryz.isAgg38 Tryz.sizeOf38 rfl rfl rfl) rfl ?_))))))
  refine ops_call (rDepth_c _ c (Nat.le_refl _) hok hz) rfl pf_nil (fun v _ h => by exact ⟨h.1, trivial⟩) rfl fun _ => ?_
  refine ops_valB (yld_gtr rfl rfl) rfl fun r1 hr1 => ?_
  refine ops_val (yld_move rfl) rfl ?_
  cases r1
  · skip
    replace hr1 := of_decide_eq_false hr1
    refine ops_yes rfl rfl (ops_val (yld_loadS 0 Tryz.isAgg38 Tryz.sizeOf38 rfl rfl rfl) rfl ?_)
    refine ops_yes rfl rfl (ops_call (rSize_c _ c (Nat.le_refl _) hok hz) rfl pf_nil (fun v _ h => by exact ⟨h.1, trivial⟩) rfl fun _ => ?_)
    refine ops_yes rfl rfl (ops_valB (yld_gtr rfl rfl) rfl fun r2 hr2 => ?_)
    refine ops_val (yld_pick_f rfl rfl) rfl ?_
    refine ops_nil (fin_next rfl ?_)
    cases r2
    · skip
      replace hr2 := of_decide_eq_false hr2
      refine run_cond_f rfl (run_skip (fin_next rfl (run_seq (run_region (ops_val (yld_loadS 0 Tryz.isAgg38 Tryz.sizeOf38 rfl rfl rfl) rfl ?_)))))
      refine ops_call (rWalk_c _ c (Nat.le_refl _) hok) rfl pf_nil (fun v _ h => by exact ⟨h.1, trivial⟩) rfl fun _ => ?_
      refine ops_val (yld_assign rfl) rfl (ops_nil (fin_next rfl (run_ret ?_)))
      exact ret1 Tryz.results46 () (get_int rfl (by rw [Con.check_ref, if_neg (by omega)])) pf_nil (fun _ _ _ => trivial)
    · skip
      replace hr2 := of_decide_eq_true hr2
      refine run_cond_t rfl (run_seq (run_region (ops_val (yld_assign rfl) rfl (ops_nil (fin_next rfl (run_ret ?_))))))
      exact ret1 Tryz.results46 () (get_int rfl (by rw [Con.check_ref, if_pos (by omega)])) pf_nil (fun _ _ _ => trivial)
  · skip
    replace hr1 := of_decide_eq_true hr1
    refine ops_no rfl rfl rfl rfl (ops_no rfl rfl rfl rfl (ops_no rfl rfl rfl rfl (ops_val (yld_pick_t rfl rfl) rfl ?_)))
    refine ops_nil (fin_next rfl (run_cond_t rfl (run_seq (run_region (ops_val (yld_assign rfl) rfl (ops_nil (fin_next rfl ?_)))))))
    refine run_ret ?_
    exact ret1 Tryz.results46 () (get_int rfl (by rw [Con.check_ref, if_pos (by omega)])) pf_nil (fun _ _ _ => trivial)

theorem rEmpty_c (c : Con) : Fn0 Tryz.prog 76 #[Con.val c] (.bool c.empty) := by
 refine tri_of_body Tryz.func76 rfl rfl Tryz.ntmps76 rfl fun v0 => ?_
 refine run_seq (run_region (ops_box rfl rfl fun b1 => ?_))
 refine ops_val (yld_assign rfl) rfl (ops_nil (fin_next rfl (run_seq (run_region (ops_val (yld_field Tryz.runUnderlying38 rfl rfl rfl Tryz.sizeOf3) rfl ?_)))))
 refine ops_val (yld_load 0 Tryz.isAgg3 rfl rfl rfl) rfl ?_
 refine ops_valB (yld_eql rfl rfl) rfl fun r1 hr1 => ?_
 refine ops_val (yld_move rfl) rfl ?_
 refine ops_cut 4 (((Con.kind c) == 0) && ((Con.name c) == [])) (fun r => [(0, Con.val c), (1, .pointer (some ⟨b1, 0, none⟩)), (2, .bool false), (10, .bool r)]) ?_ fun r2 hr2 => ?_
 ·
  cases r1
  ·
   have qr2 := hr1
   replace hr1 := ne_of_beq_false hr1
   refine ops_no rfl rfl rfl rfl (ops_no rfl rfl rfl rfl (ops_no rfl rfl rfl rfl (ops_val (yld_pick_f rfl rfl) rfl ?_)))
   refine ops_nil (fin_inv rfl ?_)
   exact met ⟨rfl, rfl, rfl, (get_bool rfl (jaf qr2)), trivial⟩
  ·
   have qr2 := hr1
   replace hr1 := eq_of_beq hr1
   refine ops_yes rfl rfl (ops_val (yld_field Tryz.runUnderlying38 rfl rfl rfl Tryz.sizeOf9) rfl ?_)
   refine ops_yes rfl rfl (ops_val (yld_load 0 Tryz.isAgg9 rfl rfl rfl) rfl ?_)
   refine ops_yes rfl rfl (ops_valB (yld_seql rfl rfl) rfl fun r3 hr3 => ?_)
   refine ops_val (yld_pick_t rfl rfl) rfl ?_
   refine ops_nil (fin_inv rfl ?_)
   exact met ⟨rfl, rfl, rfl, (get_bool rfl (jat qr2 hr3)), trivial⟩
 ·
  refine ops_val (yld_move rfl) rfl ?_
  refine ops_cut 4 (((((Con.kind c) == 0) && ((Con.name c) == []))) && ((Con.lo c) == 0)) (fun r => [(0, Con.val c), (1, .pointer (some ⟨b1, 0, none⟩)), (2, .bool false), (15, .bool r)]) ?_ fun r4 hr4 => ?_
  ·
   cases r2
   ·
    have qr4 := hr2
    simp at hr2
    refine ops_no rfl rfl rfl rfl (ops_no rfl rfl rfl rfl (ops_no rfl rfl rfl rfl (ops_val (yld_pick_f rfl rfl) rfl ?_)))
    refine ops_nil (fin_inv rfl ?_)
    exact met ⟨rfl, rfl, rfl, (get_bool rfl (jaf qr4)), trivial⟩
   ·
    have qr4 := hr2
    simp at hr2
    refine ops_yes rfl rfl (ops_val (yld_field Tryz.runUnderlying38 rfl rfl rfl Tryz.sizeOf3) rfl ?_)
    refine ops_yes rfl rfl (ops_val (yld_load 0 Tryz.isAgg3 rfl rfl rfl) rfl ?_)
    refine ops_yes rfl rfl (ops_valB (yld_eql rfl rfl) rfl fun r5 hr5 => ?_)
    refine ops_val (yld_pick_t rfl rfl) rfl ?_
    refine ops_nil (fin_inv rfl ?_)
    exact met ⟨rfl, rfl, rfl, (get_bool rfl (jat qr4 hr5)), trivial⟩
  ·
   refine ops_val (yld_move rfl) rfl ?_
   refine ops_cut 4 (((((((Con.kind c) == 0) && ((Con.name c) == []))) && ((Con.lo c) == 0))) && ((Con.hi c) == 0)) (fun r => [(0, Con.val c), (1, .pointer (some ⟨b1, 0, none⟩)), (2, .bool false), (20, .bool r)]) ?_ fun r6 hr6 => ?_
   ·
    cases r4
    ·
     have qr6 := hr4
     simp at hr4
     refine ops_no rfl rfl rfl rfl (ops_no rfl rfl rfl rfl (ops_no rfl rfl rfl rfl (ops_val (yld_pick_f rfl rfl) rfl ?_)))
     refine ops_nil (fin_inv rfl ?_)
     exact met ⟨rfl, rfl, rfl, (get_bool rfl (jaf qr6)), trivial⟩
    ·
     have qr6 := hr4
     simp at hr4
     refine ops_yes rfl rfl (ops_val (yld_field Tryz.runUnderlying38 rfl rfl rfl Tryz.sizeOf3) rfl ?_)
     refine ops_yes rfl rfl (ops_val (yld_load 0 Tryz.isAgg3 rfl rfl rfl) rfl ?_)
     refine ops_yes rfl rfl (ops_valB (yld_eql rfl rfl) rfl fun r7 hr7 => ?_)
     refine ops_val (yld_pick_t rfl rfl) rfl ?_
     refine ops_nil (fin_inv rfl ?_)
     exact met ⟨rfl, rfl, rfl, (get_bool rfl (jat qr6 hr7)), trivial⟩
   ·
    refine ops_val (yld_move rfl) rfl ?_
    refine ops_cut 5 (((((((((Con.kind c) == 0) && ((Con.name c) == []))) && ((Con.lo c) == 0))) && ((Con.hi c) == 0))) && ((List.length (Con.parts c) : Int) == 0)) (fun r => [(0, Con.val c), (2, .bool false), (26, .bool r)]) ?_ fun r8 hr8 => ?_
    ·
     cases r6
     ·
      have qr8 := hr6
      simp at hr6
      refine ops_no rfl rfl rfl rfl (ops_no rfl rfl rfl rfl (ops_no rfl rfl rfl rfl (ops_no rfl rfl rfl rfl (ops_val (yld_pick_f rfl rfl) rfl ?_))))
      refine ops_nil (fin_inv rfl ?_)
      exact met ⟨rfl, rfl, (get_bool rfl (jaf qr8)), trivial⟩
     ·
      have qr8 := hr6
      simp at hr6
      refine ops_yes rfl rfl (ops_val (yld_field Tryz.runUnderlying38 rfl rfl rfl Tryz.sizeOf36) rfl ?_)
      refine ops_yes rfl rfl (ops_val (yld_load 0 Tryz.isAgg36 rfl rfl rfl) rfl ?_)
      refine ops_yes rfl rfl (ops_val (yld_lenS Tryz.runUnderlying36 rfl) rfl ?_)
      refine ops_yes rfl rfl (ops_valB (yld_eql rfl rfl) rfl fun r9 hr9 => ?_)
      refine ops_val (yld_pick_t rfl rfl) rfl ?_
      refine ops_nil (fin_inv rfl ?_)
      exact met ⟨rfl, rfl, (get_bool rfl (jat qr8 hr9)), trivial⟩
    ·
     refine ops_val (yld_assign rfl) rfl (ops_nil (fin_next rfl (run_ret ?_)))
     exact ret1 Tryz.results76 () (get_bool rfl (by unfold Con.empty; subst_vars; simp [*])) pf_nil (fun _ _ _ => trivial)

theorem rBare_c : ∀ (m : Nat) (c : Con), c.sz ≤ m → c.ok → Tri Tryz.prog 79 #[Con.val c] [] [Con.memF c] (fun _ : Unit => .bool c.rbare) (fun _ => []) (fun _ => []) := by
 intro m
 induction m with
 | zero => intro c h; have := c.sz_pos; omega
 | succ m ih =>
  intro c hm hok
  have hpl := Con.ok_len hok
  refine tri_of_body Tryz.func79 rfl rfl Tryz.ntmps79 rfl fun v0 => ?_
  refine run_seq (run_region (ops_box rfl rfl fun b1 => ?_))
  refine ops_val (yld_assign rfl) rfl (ops_nil (fin_next rfl (run_seq (run_seq (run_region (ops_val (yld_field Tryz.runUnderlying38 rfl rfl rfl Tryz.sizeOf3) rfl ?_))))))
  refine ops_val (yld_load 0 Tryz.isAgg3 rfl rfl rfl) rfl ?_
  refine ops_valB (yld_eql rfl rfl) rfl fun r1 hr1 => ?_
  refine ops_nil (fin_next rfl ?_)
  cases r1
  ·
   replace hr1 := ne_of_beq_false hr1
   refine run_cond_f rfl (run_skip (fin_next rfl (run_seq (run_seq (run_region (ops_val (yld_field Tryz.runUnderlying38 rfl rfl rfl Tryz.sizeOf3) rfl ?_))))))
   refine ops_val (yld_load 0 Tryz.isAgg3 rfl rfl rfl) rfl ?_
   refine ops_valB (yld_eql rfl rfl) rfl fun r2 hr2 => ?_
   refine ops_nil (fin_next rfl ?_)
   cases r2
   ·
    replace hr2 := ne_of_beq_false hr2
    refine run_cond_f rfl (run_skip (fin_next rfl (run_seq (run_seq (run_region (ops_val (yld_assign rfl) rfl (ops_nil ?_)))))))
    refine fin_next rfl (run_block (ok_fr [(1, .pointer (some ⟨b1, 0, none⟩)), (3, .int .i64 ((0 : Nat) : Int))] ⟨rfl, rfl, trivial⟩ ?_))
    refine run_loop (ι := {q : Nat // q ≤ c.parts.length ∧ (c.parts.take q).any Con.rbare = false}) (fun i => [(1, .pointer (some ⟨b1, 0, none⟩)), (3, .int .i64 (i.1 : Int))]) (fun _ => _) (fun _ => _) (fun i => c.parts.length - i.1) ⟨0, by simp⟩ ?_
    rintro ⟨i, hk⟩
    refine ok_fr [(1, .pointer (some ⟨b1, 0, none⟩)), (3, .int .i64 (i : Int))] ⟨rfl, rfl, trivial⟩ ?_
    refine run_seq (run_seq (run_region (ops_val (yld_move rfl) rfl (ops_val (yld_field Tryz.runUnderlying38 rfl rfl rfl Tryz.sizeOf36) rfl ?_))))
    refine ops_val (yld_load 0 Tryz.isAgg36 rfl rfl rfl) rfl ?_
    refine ops_val (yld_lenS Tryz.runUnderlying36 rfl) rfl ?_
    refine ops_valB (yld_lss rfl rfl) rfl fun r3 hr3 => ?_
    refine ops_nil (fin_next rfl ?_)
    cases r3
    ·
     replace hr3 := of_decide_eq_false hr3
     refine run_cond_f rfl (run_exit rfl (fin_next rfl (run_seq (run_region (ops_val (yld_assign rfl) rfl (ops_nil (fin_next rfl ?_)))))))
     refine run_ret ?_
     exact ret1 Tryz.results79 () (get_bool rfl (by have := hk.2; rw [List.take_of_length_le (by omega)] at this; rw [Con.rbare_eq, if_neg (by assumption), if_neg (by assumption), this])) pf_nil (fun _ _ _ => trivial)
    ·
     replace hr3 := of_decide_eq_true hr3
     have hlx1 : i < List.length (Con.parts c) := by omega
     obtain ⟨x1, hx1⟩ : ∃ e0, (Con.parts c)[i]? = some e0 := ⟨_, List.getElem?_eq_getElem hlx1⟩
     have hmx1 : x1 ∈ (Con.parts c) := List.mem_of_getElem? hx1
     have hsp := Con.sz_part hmx1
     refine run_cond_t rfl (run_skip (fin_next rfl (run_seq (run_block (run_seq (run_region (ops_val (yld_field Tryz.runUnderlying38 rfl rfl rfl Tryz.sizeOf36) rfl ?_)))))))
     refine ops_val (yld_load 0 Tryz.isAgg36 rfl rfl rfl) rfl ?_
     refine ops_val (yld_move rfl) rfl (ops_val (yld_indexR Tryz.runUnderlying36 Tryz.sizeOf38 rfl rfl (fun v _ h => row_adr (n := 5) Con.cells_len (by decide) (by exact ((Con.mem_iff c v).1 h.1).1) hx1) (by omega) (by first | omega | (simp; done))) rfl ?_)
     refine ops_val (yld_loadRS (ad := (Con.ad c)) (us := Con.cells x1) Tryz.isAgg38 Tryz.sizeOf38 rfl (fun v _ h => by exact ((Con.mem_iff c v).1 h.1).1) (Con.cells_len _) (row_cells Con.cells_len hx1)) rfl ?_
     refine ops_callB (ih x1 (by omega) (Con.ok_part hok hmx1)) rfl pf_nil (fun v _ h => by exact ⟨(Con.mem_part (c := c) h.1 hmx1), trivial⟩) rfl fun r4 hr4 => ?_
     refine ops_nil (fin_next rfl ?_)
     cases r4
     ·
      refine run_cond_f rfl (run_skip (fin_next rfl (run_region (ops_val (yld_move rfl) rfl (ops_val (yld_arith rfl rfl rfl (wrap64 (by omega) (by omega))) rfl ?_)))))
      refine ops_val (yld_assign rfl) rfl (ops_nil (fin_inv rfl ?_))
      exact ok_again ⟨i + 1, hlx1, by rw [List.take_add_one, hx1]; simp only [Option.toList_some, List.any_append, hk.2]; simp [*]⟩ (by simp; omega) ⟨rfl, rfl, trivial⟩ (.refl _) (fun _ _ h => h)
     ·
      refine run_cond_t rfl (run_seq (run_region (ops_val (yld_assign rfl) rfl (ops_nil (fin_next rfl (run_ret ?_))))))
      exact ret1 Tryz.results79 () (get_bool rfl (by rw [Con.rbare_eq, if_neg (by assumption), if_neg (by assumption)]; symm; exact List.any_eq_true.2 ⟨x1, hmx1, by assumption⟩)) pf_nil (fun _ _ _ => trivial)
   ·
    replace hr2 := eq_of_beq hr2
    refine run_cond_t rfl (run_seq (run_region (ops_val (yld_assign rfl) rfl (ops_nil (fin_next rfl (run_ret ?_))))))
    exact ret1 Tryz.results79 () (get_bool rfl (by rw [Con.rbare_eq]; simp [*])) pf_nil (fun _ _ _ => trivial)
  ·
   replace hr1 := eq_of_beq hr1
   refine run_cond_t rfl (run_seq (run_region (ops_val (yld_assign rfl) rfl (ops_nil (fin_next rfl (run_ret ?_))))))
   exact ret1 Tryz.results79 () (get_bool rfl (by rw [Con.rbare_eq]; simp [*])) pf_nil (fun _ _ _ => trivial)

theorem us_no {k : Int} (h : k < 1 ∨ 9 < k) : (useL[k.toNat]?).getD ⟨false, false, false, false, false, 0, 0⟩ = ⟨false, false, false, false, false, 0, 0⟩ := by
  rcases h with h | h
  · have : k.toNat = 0 := by omega
    rw [this]; rfl
  · have : useL.length ≤ k.toNat := by show 10 ≤ k.toNat; omega
    rw [List.getElem?_eq_none this]; rfl

theorem rFields_c (k : Int) : Fn0 Tryz.prog 75 #[.int .i64 k] (.tuple #[.bool (us k).left, .bool (us k).right, .bool (us k).role, .bool (us k).a, .bool (us k).b, .int .i64 (us k).least, .int .i64 (us k).most]) := by
 refine tri_of_body Tryz.func75 rfl rfl Tryz.ntmps75 rfl fun v0 => ?_
 refine run_seq (run_region (ops_val (yld_assign rfl) rfl (ops_val (yld_assign rfl) rfl (ops_val (yld_assign rfl) rfl (ops_val (yld_assign rfl) rfl (ops_val (yld_assign rfl) rfl (ops_val (yld_assign rfl) rfl ?_)))))))
 refine ops_val (yld_assign rfl) rfl (ops_nil (fin_next rfl (run_seq (run_seq (run_region (ops_val (yld_move rfl) rfl (ops_nil ?_)))))))
 refine fin_next rfl (run_block (run_seq (run_seq (run_region (ops_valB (yld_eql rfl rfl) rfl fun r1 hr1 => ?_)))))
 refine ops_val (yld_assign rfl) rfl (ops_nil (fin_next rfl ?_))
 cases r1
 ·
  replace hr1 := ne_of_beq_false hr1
  refine run_cond_f rfl (run_seq (run_region (ops_valB (yld_eql rfl rfl) rfl fun r2 hr2 => ?_)))
  refine ops_val (yld_assign rfl) rfl (ops_nil (fin_next rfl ?_))
  cases r2
  ·
   replace hr2 := ne_of_beq_false hr2
   refine run_cond_f rfl (run_region (ops_valB (yld_eql rfl rfl) rfl fun r3 hr3 => ?_))
   refine ops_val (yld_assign rfl) rfl (ops_nil (fin_next rfl ?_))
   cases r3
   ·
    replace hr3 := ne_of_beq_false hr3
    refine run_cond_f rfl (run_seq (run_region (ops_valB (yld_eql rfl rfl) rfl fun r4 hr4 => ?_)))
    refine ops_val (yld_assign rfl) rfl (ops_nil (fin_next rfl ?_))
    cases r4
    ·
     replace hr4 := ne_of_beq_false hr4
     refine run_cond_f rfl (run_seq (run_region (ops_valB (yld_eql rfl rfl) rfl fun r5 hr5 => ?_)))
     refine ops_val (yld_assign rfl) rfl (ops_nil (fin_next rfl ?_))
     cases r5
     ·
      replace hr5 := ne_of_beq_false hr5
      refine run_cond_f rfl (run_seq (run_region (ops_valB (yld_eql rfl rfl) rfl fun r6 hr6 => ?_)))
      refine ops_val (yld_assign rfl) rfl (ops_nil (fin_next rfl ?_))
      cases r6
      ·
       replace hr6 := ne_of_beq_false hr6
       refine run_cond_f rfl (run_seq (run_region (ops_valB (yld_eql rfl rfl) rfl fun r7 hr7 => ?_)))
       refine ops_val (yld_assign rfl) rfl (ops_nil (fin_next rfl ?_))
       cases r7
       ·
        replace hr7 := ne_of_beq_false hr7
        refine run_cond_f rfl (run_seq (run_region (ops_valB (yld_eql rfl rfl) rfl fun r8 hr8 => ?_)))
        refine ops_val (yld_assign rfl) rfl (ops_nil (fin_next rfl ?_))
        cases r8
        ·
         replace hr8 := ne_of_beq_false hr8
         refine run_cond_f rfl (run_seq (run_region (ops_valB (yld_eql rfl rfl) rfl fun r9 hr9 => ?_)))
         refine ops_val (yld_assign rfl) rfl (ops_nil (fin_next rfl ?_))
         cases r9
         ·
          replace hr9 := ne_of_beq_false hr9
          refine run_cond_f rfl (run_skip (fin_next rfl (run_seq (run_region (ops_val (yld_assign rfl) rfl (ops_val (yld_assign rfl) rfl (ops_val (yld_assign rfl) rfl ?_)))))))
          refine ops_val (yld_assign rfl) rfl (ops_val (yld_assign rfl) rfl (ops_val (yld_assign rfl) rfl (ops_val (yld_assign rfl) rfl (ops_nil (fin_next rfl (run_ret ?_))))))
          exact ret7 Tryz.results75 () rfl rfl rfl rfl rfl rfl rfl (by unfold us; have : (useL[k.toNat]?).getD ⟨false, false, false, false, false, 0, 0⟩ = ⟨false, false, false, false, false, 0, 0⟩ := us_no (by omega); rw [this]) pf_nil (fun _ _ _ => trivial)
         ·
          replace hr9 := eq_of_beq hr9
          refine run_cond_t rfl (run_seq (run_region (ops_val (yld_assign rfl) rfl (ops_val (yld_assign rfl) rfl (ops_val (yld_assign rfl) rfl (ops_val (yld_assign rfl) rfl (ops_val (yld_assign rfl) rfl ?_)))))))
          refine ops_val (yld_assign rfl) rfl (ops_val (yld_assign rfl) rfl (ops_nil (fin_next rfl (run_ret ?_))))
          exact ret7 Tryz.results75 () rfl rfl rfl rfl rfl rfl rfl (by subst k; rfl) pf_nil (fun _ _ _ => trivial)
        ·
         replace hr8 := eq_of_beq hr8
         refine run_cond_t rfl (run_seq (run_region (ops_val (yld_assign rfl) rfl (ops_val (yld_assign rfl) rfl (ops_val (yld_assign rfl) rfl (ops_val (yld_assign rfl) rfl (ops_val (yld_assign rfl) rfl ?_)))))))
         refine ops_val (yld_assign rfl) rfl (ops_val (yld_assign rfl) rfl (ops_nil (fin_next rfl (run_ret ?_))))
         exact ret7 Tryz.results75 () rfl rfl rfl rfl rfl rfl rfl (by subst k; rfl) pf_nil (fun _ _ _ => trivial)
       ·
        replace hr7 := eq_of_beq hr7
        refine run_cond_t rfl (run_seq (run_region (ops_val (yld_assign rfl) rfl (ops_val (yld_assign rfl) rfl (ops_val (yld_assign rfl) rfl (ops_val (yld_assign rfl) rfl (ops_val (yld_assign rfl) rfl ?_)))))))
        refine ops_val (yld_assign rfl) rfl (ops_val (yld_assign rfl) rfl (ops_nil (fin_next rfl (run_ret ?_))))
        exact ret7 Tryz.results75 () rfl rfl rfl rfl rfl rfl rfl (by subst k; rfl) pf_nil (fun _ _ _ => trivial)
      ·
       replace hr6 := eq_of_beq hr6
       refine run_cond_t rfl (run_seq (run_region (ops_val (yld_assign rfl) rfl (ops_val (yld_assign rfl) rfl (ops_val (yld_assign rfl) rfl (ops_val (yld_assign rfl) rfl (ops_val (yld_assign rfl) rfl ?_)))))))
       refine ops_val (yld_assign rfl) rfl (ops_val (yld_assign rfl) rfl (ops_nil (fin_next rfl (run_ret ?_))))
       exact ret7 Tryz.results75 () rfl rfl rfl rfl rfl rfl rfl (by subst k; rfl) pf_nil (fun _ _ _ => trivial)
     ·
      replace hr5 := eq_of_beq hr5
      refine run_cond_t rfl (run_seq (run_region (ops_val (yld_assign rfl) rfl (ops_val (yld_assign rfl) rfl (ops_val (yld_assign rfl) rfl (ops_val (yld_assign rfl) rfl (ops_val (yld_assign rfl) rfl ?_)))))))
      refine ops_val (yld_assign rfl) rfl (ops_val (yld_assign rfl) rfl (ops_nil (fin_next rfl (run_ret ?_))))
      exact ret7 Tryz.results75 () rfl rfl rfl rfl rfl rfl rfl (by subst k; rfl) pf_nil (fun _ _ _ => trivial)
    ·
     replace hr4 := eq_of_beq hr4
     refine run_cond_t rfl (run_seq (run_region (ops_val (yld_assign rfl) rfl (ops_val (yld_assign rfl) rfl (ops_val (yld_assign rfl) rfl (ops_val (yld_assign rfl) rfl (ops_val (yld_assign rfl) rfl ?_)))))))
     refine ops_val (yld_assign rfl) rfl (ops_val (yld_assign rfl) rfl (ops_nil (fin_next rfl (run_ret ?_))))
     exact ret7 Tryz.results75 () rfl rfl rfl rfl rfl rfl rfl (by subst k; rfl) pf_nil (fun _ _ _ => trivial)
   ·
    replace hr3 := eq_of_beq hr3
    refine run_cond_t rfl (run_seq (run_region (ops_val (yld_assign rfl) rfl (ops_val (yld_assign rfl) rfl (ops_val (yld_assign rfl) rfl (ops_val (yld_assign rfl) rfl (ops_val (yld_assign rfl) rfl ?_)))))))
    refine ops_val (yld_assign rfl) rfl (ops_val (yld_assign rfl) rfl (ops_nil (fin_next rfl (run_ret ?_))))
    exact ret7 Tryz.results75 () rfl rfl rfl rfl rfl rfl rfl (by subst k; rfl) pf_nil (fun _ _ _ => trivial)
  ·
   replace hr2 := eq_of_beq hr2
   refine run_cond_t rfl (run_skip (fin_next rfl (run_cond_t rfl (run_seq (run_region (ops_val (yld_assign rfl) rfl (ops_val (yld_assign rfl) rfl ?_)))))))
   refine ops_val (yld_assign rfl) rfl (ops_val (yld_assign rfl) rfl (ops_val (yld_assign rfl) rfl (ops_val (yld_assign rfl) rfl (ops_val (yld_assign rfl) rfl (ops_nil (fin_next rfl (run_ret ?_)))))))
   exact ret7 Tryz.results75 () rfl rfl rfl rfl rfl rfl rfl (by subst k; rfl) pf_nil (fun _ _ _ => trivial)
 ·
  replace hr1 := eq_of_beq hr1
  refine run_cond_t rfl (run_skip (fin_next rfl (run_cond_t rfl (run_seq (run_region (ops_val (yld_assign rfl) rfl (ops_val (yld_assign rfl) rfl ?_)))))))
  refine ops_val (yld_assign rfl) rfl (ops_val (yld_assign rfl) rfl (ops_val (yld_assign rfl) rfl (ops_val (yld_assign rfl) rfl (ops_val (yld_assign rfl) rfl (ops_nil (fin_next rfl (run_ret ?_)))))))
  exact ret7 Tryz.results75 () rfl rfl rfl rfl rfl rfl rfl (by subst k; rfl) pf_nil (fun _ _ _ => trivial)

theorem rCheckAxiom_c (x : Ax) (hok : x.ok) (hzl : x.left.sz ≤ 1000) (hzr : x.right.sz ≤ 1000) : Tri Tryz.prog 42 #[Ax.val x] [] [Ax.memF x] (fun _ : Unit => .int .i64 x.check) (fun _ => []) (fun _ => []) := by
 refine tri_of_body Tryz.func42 rfl rfl Tryz.ntmps42 rfl fun v0 => ?_
 have h4 := hok.len
 have h5 := hok.cap
 refine run_seq (run_region (ops_box rfl rfl fun b1 => ?_))
 refine ops_val (yld_assign rfl) rfl (ops_nil (fin_next rfl (run_seq (run_region (ops_val (yld_field Tryz.runUnderlying41 rfl rfl rfl Tryz.sizeOf3) rfl ?_)))))
 refine ops_val (yld_load 0 Tryz.isAgg3 rfl rfl rfl) rfl ?_
 refine ops_call (rFields_c x.kind) rfl pf_nil (fun _ _ _ => by exact trivial) rfl fun _ => ?_
 rcases hu : us x.kind with ⟨ul, ur, uo, ua, ub, um, un⟩
 dsimp only
 refine ops_val (yld_move rfl) rfl (ops_val (yld_extract rfl rfl) rfl ?_)
 refine ops_val (yld_extract rfl rfl) rfl ?_
 refine ops_val (yld_extract rfl rfl) rfl ?_
 refine ops_val (yld_extract rfl rfl) rfl ?_
 refine ops_val (yld_extract rfl rfl) rfl ?_
 refine ops_val (yld_extract rfl rfl) rfl ?_
 refine ops_val (yld_extract rfl rfl) rfl ?_
 refine ops_val (yld_assign rfl) rfl (ops_val (yld_assign rfl) rfl (ops_val (yld_assign rfl) rfl (ops_val (yld_assign rfl) rfl (ops_val (yld_assign rfl) rfl (ops_val (yld_assign rfl) rfl (ops_val (yld_assign rfl) rfl (ops_nil ?_)))))))
 refine fin_next rfl (run_seq (run_seq (run_region (ops_val (yld_field Tryz.runUnderlying41 rfl rfl rfl Tryz.sizeOf3) rfl ?_))))
 refine ops_val (yld_load 0 Tryz.isAgg3 rfl rfl rfl) rfl ?_
 refine ops_valB (yld_lss rfl rfl) rfl fun r1 hr1 => ?_
 refine ops_val (yld_move rfl) rfl ?_
 refine ops_cut 4 ((decide ((Ax.kind x) < 1)) || (decide (9 < (Ax.kind x)))) (fun r => [(1, .pointer (some ⟨b1, 0, none⟩)), (2, .int .i64 0), (3, .bool ul), (4, .bool ur), (5, .bool uo), (6, .bool ua), (7, .bool ub), (8, .int .i64 um), (9, .int .i64 un), (31, .bool r)]) ?_ fun r2 hr2 => ?_
 ·
  cases r1
  ·
   have qr2 := hr1
   replace hr1 := of_decide_eq_false hr1
   refine ops_yes rfl rfl (ops_val (yld_field Tryz.runUnderlying41 rfl rfl rfl Tryz.sizeOf3) rfl ?_)
   refine ops_yes rfl rfl (ops_val (yld_load 0 Tryz.isAgg3 rfl rfl rfl) rfl ?_)
   refine ops_yes rfl rfl (ops_valB (yld_gtr rfl rfl) rfl fun r3 hr3 => ?_)
   refine ops_val (yld_pick_f rfl rfl) rfl ?_
   refine ops_nil (fin_inv rfl ?_)
   exact met ⟨rfl, rfl, rfl, rfl, rfl, rfl, rfl, rfl, rfl, (get_bool rfl (jof qr2 hr3)), trivial⟩
  ·
   have qr2 := hr1
   replace hr1 := of_decide_eq_true hr1
   refine ops_no rfl rfl rfl rfl (ops_no rfl rfl rfl rfl (ops_no rfl rfl rfl rfl (ops_val (yld_pick_t rfl rfl) rfl ?_)))
   refine ops_nil (fin_inv rfl ?_)
   exact met ⟨rfl, rfl, rfl, rfl, rfl, rfl, rfl, rfl, rfl, (get_bool rfl (jot qr2)), trivial⟩
 ·
  refine ops_val (yld_move rfl) rfl ?_
  refine ops_cut 9 ((((decide ((Ax.kind x) < 1)) || (decide (9 < (Ax.kind x))))) || (((!(ul)) && (!(Con.empty (Ax.left x)))))) (fun r => [(1, .pointer (some ⟨b1, 0, none⟩)), (2, .int .i64 0), (3, .bool ul), (4, .bool ur), (5, .bool uo), (6, .bool ua), (7, .bool ub), (8, .int .i64 um), (9, .int .i64 un), (41, .bool r)]) ?_ fun r4 hr4 => ?_
  ·
   cases r2
   ·
    have qr4 := hr2
    refine ops_yes rfl rfl (ops_val (yld_move rfl) rfl (ops_yes rfl rfl (ops_val (yld_not rfl) rfl ?_)))
    refine ops_yes rfl rfl (ops_val (yld_move rfl) rfl ?_)
    refine ops_cut 5 ((!(ul)) && (!(Con.empty (Ax.left x)))) (fun r => [(1, .pointer (some ⟨b1, 0, none⟩)), (2, .int .i64 0), (3, .bool ul), (4, .bool ur), (5, .bool uo), (6, .bool ua), (7, .bool ub), (8, .int .i64 um), (9, .int .i64 un), (32, .bool false), (40, .bool r)]) ?_ fun r5 hr5 => ?_
    ·
     cases ul
     ·
      refine ops_yes rfl rfl (ops_val (yld_field Tryz.runUnderlying41 rfl rfl rfl Tryz.sizeOf38) rfl ?_)
      refine ops_yes rfl rfl (ops_val (yld_loadS 0 Tryz.isAgg38 Tryz.sizeOf38 rfl rfl rfl) rfl ?_)
      refine ops_yes rfl rfl (ops_callB (rEmpty_c (Ax.left x)) rfl pf_nil (fun _ _ _ => by exact trivial) rfl fun r6 hr6 => ?_)
      refine ops_yes rfl rfl (ops_val (yld_not rfl) rfl ?_)
      refine ops_yes rfl rfl (ops_val (yld_pick_t rfl rfl) rfl ?_)
      refine ops_nil (fin_inv rfl ?_)
      exact met ⟨rfl, rfl, rfl, rfl, rfl, rfl, rfl, rfl, rfl, rfl, (get_bool rfl (jat (jn rfl) (jn hr6))), trivial⟩
     ·
      refine ops_no rfl rfl rfl rfl (ops_no rfl rfl rfl rfl (ops_no rfl rfl rfl rfl (ops_no rfl rfl rfl rfl (ops_yes rfl rfl (ops_val (yld_pick_f rfl rfl) rfl ?_)))))
      refine ops_nil (fin_inv rfl ?_)
      exact met ⟨rfl, rfl, rfl, rfl, rfl, rfl, rfl, rfl, rfl, rfl, (get_bool rfl (jaf (jn rfl))), trivial⟩
    ·
     refine ops_val (yld_pick_f rfl rfl) rfl ?_
     refine ops_nil (fin_inv rfl ?_)
     exact met ⟨rfl, rfl, rfl, rfl, rfl, rfl, rfl, rfl, rfl, (get_bool rfl (jof qr4 hr5)), trivial⟩
   ·
    have qr4 := hr2
    refine ops_no rfl rfl rfl rfl (ops_no rfl rfl rfl rfl (ops_no rfl rfl rfl rfl (ops_no rfl rfl rfl rfl (ops_no rfl rfl rfl rfl (ops_no rfl rfl rfl rfl (ops_no rfl rfl rfl rfl (ops_no rfl rfl rfl rfl ?_)))))))
    refine ops_val (yld_pick_t rfl rfl) rfl ?_
    refine ops_nil (fin_inv rfl ?_)
    exact met ⟨rfl, rfl, rfl, rfl, rfl, rfl, rfl, rfl, rfl, (get_bool rfl (jot qr4)), trivial⟩
  ·
   refine ops_val (yld_move rfl) rfl ?_
   refine ops_cut 9 ((((((decide ((Ax.kind x) < 1)) || (decide (9 < (Ax.kind x))))) || (((!(ul)) && (!(Con.empty (Ax.left x))))))) || (((!(ur)) && (!(Con.empty (Ax.right x)))))) (fun r => [(1, .pointer (some ⟨b1, 0, none⟩)), (2, .int .i64 0), (3, .bool ul), (4, .bool ur), (5, .bool uo), (6, .bool ua), (7, .bool ub), (8, .int .i64 um), (9, .int .i64 un), (51, .bool r)]) ?_ fun r7 hr7 => ?_
   ·
    cases r4
    ·
     have qr7 := hr4
     refine ops_yes rfl rfl (ops_val (yld_move rfl) rfl (ops_yes rfl rfl (ops_val (yld_not rfl) rfl ?_)))
     refine ops_yes rfl rfl (ops_val (yld_move rfl) rfl ?_)
     refine ops_cut 5 ((!(ur)) && (!(Con.empty (Ax.right x)))) (fun r => [(1, .pointer (some ⟨b1, 0, none⟩)), (2, .int .i64 0), (3, .bool ul), (4, .bool ur), (5, .bool uo), (6, .bool ua), (7, .bool ub), (8, .int .i64 um), (9, .int .i64 un), (42, .bool false), (50, .bool r)]) ?_ fun r8 hr8 => ?_
     ·
      cases ur
      ·
       refine ops_yes rfl rfl (ops_val (yld_field Tryz.runUnderlying41 rfl rfl rfl Tryz.sizeOf38) rfl ?_)
       refine ops_yes rfl rfl (ops_val (yld_loadS 0 Tryz.isAgg38 Tryz.sizeOf38 rfl rfl rfl) rfl ?_)
       refine ops_yes rfl rfl (ops_callB (rEmpty_c (Ax.right x)) rfl pf_nil (fun _ _ _ => by exact trivial) rfl fun r9 hr9 => ?_)
       refine ops_yes rfl rfl (ops_val (yld_not rfl) rfl ?_)
       refine ops_yes rfl rfl (ops_val (yld_pick_t rfl rfl) rfl ?_)
       refine ops_nil (fin_inv rfl ?_)
       exact met ⟨rfl, rfl, rfl, rfl, rfl, rfl, rfl, rfl, rfl, rfl, (get_bool rfl (jat (jn rfl) (jn hr9))), trivial⟩
      ·
       refine ops_no rfl rfl rfl rfl (ops_no rfl rfl rfl rfl (ops_no rfl rfl rfl rfl (ops_no rfl rfl rfl rfl (ops_yes rfl rfl (ops_val (yld_pick_f rfl rfl) rfl ?_)))))
       refine ops_nil (fin_inv rfl ?_)
       exact met ⟨rfl, rfl, rfl, rfl, rfl, rfl, rfl, rfl, rfl, rfl, (get_bool rfl (jaf (jn rfl))), trivial⟩
     ·
      refine ops_val (yld_pick_f rfl rfl) rfl ?_
      refine ops_nil (fin_inv rfl ?_)
      exact met ⟨rfl, rfl, rfl, rfl, rfl, rfl, rfl, rfl, rfl, (get_bool rfl (jof qr7 hr8)), trivial⟩
    ·
     have qr7 := hr4
     refine ops_no rfl rfl rfl rfl (ops_no rfl rfl rfl rfl (ops_no rfl rfl rfl rfl (ops_no rfl rfl rfl rfl (ops_no rfl rfl rfl rfl (ops_no rfl rfl rfl rfl (ops_no rfl rfl rfl rfl (ops_no rfl rfl rfl rfl ?_)))))))
     refine ops_val (yld_pick_t rfl rfl) rfl ?_
     refine ops_nil (fin_inv rfl ?_)
     exact met ⟨rfl, rfl, rfl, rfl, rfl, rfl, rfl, rfl, rfl, (get_bool rfl (jot qr7)), trivial⟩
   ·
    refine ops_val (yld_move rfl) rfl ?_
    refine ops_cut 8 ((((((((decide ((Ax.kind x) < 1)) || (decide (9 < (Ax.kind x))))) || (((!(ul)) && (!(Con.empty (Ax.left x))))))) || (((!(ur)) && (!(Con.empty (Ax.right x))))))) || (((!(uo)) && ((Ax.role x) != [])))) (fun r => [(1, .pointer (some ⟨b1, 0, none⟩)), (2, .int .i64 0), (3, .bool ul), (4, .bool ur), (5, .bool uo), (6, .bool ua), (7, .bool ub), (8, .int .i64 um), (9, .int .i64 un), (60, .bool r)]) ?_ fun r10 hr10 => ?_
    ·
     cases r7
     ·
      have qr10 := hr7
      refine ops_yes rfl rfl (ops_val (yld_move rfl) rfl (ops_yes rfl rfl (ops_val (yld_not rfl) rfl ?_)))
      refine ops_yes rfl rfl (ops_val (yld_move rfl) rfl ?_)
      refine ops_cut 4 ((!(uo)) && ((Ax.role x) != [])) (fun r => [(1, .pointer (some ⟨b1, 0, none⟩)), (2, .int .i64 0), (3, .bool ul), (4, .bool ur), (5, .bool uo), (6, .bool ua), (7, .bool ub), (8, .int .i64 um), (9, .int .i64 un), (52, .bool false), (59, .bool r)]) ?_ fun r11 hr11 => ?_
      ·
       cases uo
       ·
        refine ops_yes rfl rfl (ops_val (yld_field Tryz.runUnderlying41 rfl rfl rfl Tryz.sizeOf9) rfl ?_)
        refine ops_yes rfl rfl (ops_val (yld_load 0 Tryz.isAgg9 rfl rfl rfl) rfl ?_)
        refine ops_yes rfl rfl (ops_valB (yld_sneq rfl rfl) rfl fun r12 hr12 => ?_)
        refine ops_yes rfl rfl (ops_val (yld_pick_t rfl rfl) rfl ?_)
        refine ops_nil (fin_inv rfl ?_)
        exact met ⟨rfl, rfl, rfl, rfl, rfl, rfl, rfl, rfl, rfl, rfl, (get_bool rfl (jat (jn rfl) hr12)), trivial⟩
       ·
        refine ops_no rfl rfl rfl rfl (ops_no rfl rfl rfl rfl (ops_no rfl rfl rfl rfl (ops_yes rfl rfl (ops_val (yld_pick_f rfl rfl) rfl ?_))))
        refine ops_nil (fin_inv rfl ?_)
        exact met ⟨rfl, rfl, rfl, rfl, rfl, rfl, rfl, rfl, rfl, rfl, (get_bool rfl (jaf (jn rfl))), trivial⟩
      ·
       refine ops_val (yld_pick_f rfl rfl) rfl ?_
       refine ops_nil (fin_inv rfl ?_)
       exact met ⟨rfl, rfl, rfl, rfl, rfl, rfl, rfl, rfl, rfl, (get_bool rfl (jof qr10 hr11)), trivial⟩
     ·
      have qr10 := hr7
      refine ops_no rfl rfl rfl rfl (ops_no rfl rfl rfl rfl (ops_no rfl rfl rfl rfl (ops_no rfl rfl rfl rfl (ops_no rfl rfl rfl rfl (ops_no rfl rfl rfl rfl (ops_no rfl rfl rfl rfl (ops_val (yld_pick_t rfl rfl) rfl ?_)))))))
      refine ops_nil (fin_inv rfl ?_)
      exact met ⟨rfl, rfl, rfl, rfl, rfl, rfl, rfl, rfl, rfl, (get_bool rfl (jot qr10)), trivial⟩
    ·
     refine ops_val (yld_move rfl) rfl ?_
     refine ops_cut 8 ((((((((((decide ((Ax.kind x) < 1)) || (decide (9 < (Ax.kind x))))) || (((!(ul)) && (!(Con.empty (Ax.left x))))))) || (((!(ur)) && (!(Con.empty (Ax.right x))))))) || (((!(uo)) && ((Ax.role x) != []))))) || (((!(ua)) && ((Ax.a x) != [])))) (fun r => [(1, .pointer (some ⟨b1, 0, none⟩)), (2, .int .i64 0), (3, .bool ul), (4, .bool ur), (5, .bool uo), (6, .bool ua), (7, .bool ub), (8, .int .i64 um), (9, .int .i64 un), (69, .bool r)]) ?_ fun r13 hr13 => ?_
     ·
      cases r10
      ·
       have qr13 := hr10
       refine ops_yes rfl rfl (ops_val (yld_move rfl) rfl (ops_yes rfl rfl (ops_val (yld_not rfl) rfl ?_)))
       refine ops_yes rfl rfl (ops_val (yld_move rfl) rfl ?_)
       refine ops_cut 4 ((!(ua)) && ((Ax.a x) != [])) (fun r => [(1, .pointer (some ⟨b1, 0, none⟩)), (2, .int .i64 0), (3, .bool ul), (4, .bool ur), (5, .bool uo), (6, .bool ua), (7, .bool ub), (8, .int .i64 um), (9, .int .i64 un), (61, .bool false), (68, .bool r)]) ?_ fun r14 hr14 => ?_
       ·
        cases ua
        ·
         refine ops_yes rfl rfl (ops_val (yld_field Tryz.runUnderlying41 rfl rfl rfl Tryz.sizeOf9) rfl ?_)
         refine ops_yes rfl rfl (ops_val (yld_load 0 Tryz.isAgg9 rfl rfl rfl) rfl ?_)
         refine ops_yes rfl rfl (ops_valB (yld_sneq rfl rfl) rfl fun r15 hr15 => ?_)
         refine ops_yes rfl rfl (ops_val (yld_pick_t rfl rfl) rfl ?_)
         refine ops_nil (fin_inv rfl ?_)
         exact met ⟨rfl, rfl, rfl, rfl, rfl, rfl, rfl, rfl, rfl, rfl, (get_bool rfl (jat (jn rfl) hr15)), trivial⟩
        ·
         refine ops_no rfl rfl rfl rfl (ops_no rfl rfl rfl rfl (ops_no rfl rfl rfl rfl (ops_yes rfl rfl (ops_val (yld_pick_f rfl rfl) rfl ?_))))
         refine ops_nil (fin_inv rfl ?_)
         exact met ⟨rfl, rfl, rfl, rfl, rfl, rfl, rfl, rfl, rfl, rfl, (get_bool rfl (jaf (jn rfl))), trivial⟩
       ·
        refine ops_val (yld_pick_f rfl rfl) rfl ?_
        refine ops_nil (fin_inv rfl ?_)
        exact met ⟨rfl, rfl, rfl, rfl, rfl, rfl, rfl, rfl, rfl, (get_bool rfl (jof qr13 hr14)), trivial⟩
      ·
       have qr13 := hr10
       refine ops_no rfl rfl rfl rfl (ops_no rfl rfl rfl rfl (ops_no rfl rfl rfl rfl (ops_no rfl rfl rfl rfl (ops_no rfl rfl rfl rfl (ops_no rfl rfl rfl rfl (ops_no rfl rfl rfl rfl (ops_val (yld_pick_t rfl rfl) rfl ?_)))))))
       refine ops_nil (fin_inv rfl ?_)
       exact met ⟨rfl, rfl, rfl, rfl, rfl, rfl, rfl, rfl, rfl, (get_bool rfl (jot qr13)), trivial⟩
     ·
      refine ops_val (yld_move rfl) rfl ?_
      refine ops_cut 8 ((((((((((((decide ((Ax.kind x) < 1)) || (decide (9 < (Ax.kind x))))) || (((!(ul)) && (!(Con.empty (Ax.left x))))))) || (((!(ur)) && (!(Con.empty (Ax.right x))))))) || (((!(uo)) && ((Ax.role x) != []))))) || (((!(ua)) && ((Ax.a x) != []))))) || (((!(ub)) && ((Ax.b x) != [])))) (fun r => [(1, .pointer (some ⟨b1, 0, none⟩)), (2, .int .i64 0), (3, .bool ul), (4, .bool ur), (5, .bool uo), (6, .bool ua), (7, .bool ub), (8, .int .i64 um), (9, .int .i64 un), (78, .bool r)]) ?_ fun r16 hr16 => ?_
      ·
       cases r13
       ·
        have qr16 := hr13
        refine ops_yes rfl rfl (ops_val (yld_move rfl) rfl (ops_yes rfl rfl (ops_val (yld_not rfl) rfl ?_)))
        refine ops_yes rfl rfl (ops_val (yld_move rfl) rfl ?_)
        refine ops_cut 4 ((!(ub)) && ((Ax.b x) != [])) (fun r => [(1, .pointer (some ⟨b1, 0, none⟩)), (2, .int .i64 0), (3, .bool ul), (4, .bool ur), (5, .bool uo), (6, .bool ua), (7, .bool ub), (8, .int .i64 um), (9, .int .i64 un), (70, .bool false), (77, .bool r)]) ?_ fun r17 hr17 => ?_
        ·
         cases ub
         ·
          refine ops_yes rfl rfl (ops_val (yld_field Tryz.runUnderlying41 rfl rfl rfl Tryz.sizeOf9) rfl ?_)
          refine ops_yes rfl rfl (ops_val (yld_load 0 Tryz.isAgg9 rfl rfl rfl) rfl ?_)
          refine ops_yes rfl rfl (ops_valB (yld_sneq rfl rfl) rfl fun r18 hr18 => ?_)
          refine ops_yes rfl rfl (ops_val (yld_pick_t rfl rfl) rfl ?_)
          refine ops_nil (fin_inv rfl ?_)
          exact met ⟨rfl, rfl, rfl, rfl, rfl, rfl, rfl, rfl, rfl, rfl, (get_bool rfl (jat (jn rfl) hr18)), trivial⟩
         ·
          refine ops_no rfl rfl rfl rfl (ops_no rfl rfl rfl rfl (ops_no rfl rfl rfl rfl (ops_yes rfl rfl (ops_val (yld_pick_f rfl rfl) rfl ?_))))
          refine ops_nil (fin_inv rfl ?_)
          exact met ⟨rfl, rfl, rfl, rfl, rfl, rfl, rfl, rfl, rfl, rfl, (get_bool rfl (jaf (jn rfl))), trivial⟩
        ·
         refine ops_val (yld_pick_f rfl rfl) rfl ?_
         refine ops_nil (fin_inv rfl ?_)
         exact met ⟨rfl, rfl, rfl, rfl, rfl, rfl, rfl, rfl, rfl, (get_bool rfl (jof qr16 hr17)), trivial⟩
       ·
        have qr16 := hr13
        refine ops_no rfl rfl rfl rfl (ops_no rfl rfl rfl rfl (ops_no rfl rfl rfl rfl (ops_no rfl rfl rfl rfl (ops_no rfl rfl rfl rfl (ops_no rfl rfl rfl rfl (ops_no rfl rfl rfl rfl (ops_val (yld_pick_t rfl rfl) rfl ?_)))))))
        refine ops_nil (fin_inv rfl ?_)
        exact met ⟨rfl, rfl, rfl, rfl, rfl, rfl, rfl, rfl, rfl, (get_bool rfl (jot qr16)), trivial⟩
      ·
       refine ops_val (yld_move rfl) rfl ?_
       refine ops_cut 6 ((((((((((((((decide ((Ax.kind x) < 1)) || (decide (9 < (Ax.kind x))))) || (((!(ul)) && (!(Con.empty (Ax.left x))))))) || (((!(ur)) && (!(Con.empty (Ax.right x))))))) || (((!(uo)) && ((Ax.role x) != []))))) || (((!(ua)) && ((Ax.a x) != []))))) || (((!(ub)) && ((Ax.b x) != []))))) || (decide ((List.length (Ax.roles x) : Int) < um))) (fun r => [(1, .pointer (some ⟨b1, 0, none⟩)), (2, .int .i64 0), (3, .bool ul), (4, .bool ur), (5, .bool uo), (6, .bool ua), (7, .bool ub), (9, .int .i64 un), (85, .bool r)]) ?_ fun r19 hr19 => ?_
       ·
        cases r16
        ·
         have qr19 := hr16
         refine ops_yes rfl rfl (ops_val (yld_field Tryz.runUnderlying41 rfl rfl rfl Tryz.sizeOf39) rfl ?_)
         refine ops_yes rfl rfl (ops_val (yld_load 0 Tryz.isAgg39 rfl rfl rfl) rfl ?_)
         refine ops_yes rfl rfl (ops_val (yld_lenS Tryz.runUnderlying39 rfl) rfl ?_)
         refine ops_yes rfl rfl (ops_val (yld_move rfl) rfl (ops_yes rfl rfl (ops_valB (yld_lss rfl rfl) rfl fun r20 hr20 => ?_)))
         refine ops_val (yld_pick_f rfl rfl) rfl ?_
         refine ops_nil (fin_inv rfl ?_)
         exact met ⟨rfl, rfl, rfl, rfl, rfl, rfl, rfl, rfl, (get_bool rfl (jof qr19 hr20)), trivial⟩
        ·
         have qr19 := hr16
         refine ops_no rfl rfl rfl rfl (ops_no rfl rfl rfl rfl (ops_no rfl rfl rfl rfl (ops_no rfl rfl rfl rfl (ops_no rfl rfl rfl rfl (ops_val (yld_pick_t rfl rfl) rfl ?_)))))
         refine ops_nil (fin_inv rfl ?_)
         exact met ⟨rfl, rfl, rfl, rfl, rfl, rfl, rfl, rfl, (get_bool rfl (jot qr19)), trivial⟩
       ·
        refine ops_val (yld_move rfl) rfl ?_
        refine ops_cut 6 ((((((((((((((((decide ((Ax.kind x) < 1)) || (decide (9 < (Ax.kind x))))) || (((!(ul)) && (!(Con.empty (Ax.left x))))))) || (((!(ur)) && (!(Con.empty (Ax.right x))))))) || (((!(uo)) && ((Ax.role x) != []))))) || (((!(ua)) && ((Ax.a x) != []))))) || (((!(ub)) && ((Ax.b x) != []))))) || (decide ((List.length (Ax.roles x) : Int) < um)))) || (decide (un < (List.length (Ax.roles x) : Int)))) (fun r => [(1, .pointer (some ⟨b1, 0, none⟩)), (2, .int .i64 0), (3, .bool ul), (4, .bool ur), (5, .bool uo), (6, .bool ua), (7, .bool ub), (92, .bool r)]) ?_ fun r21 hr21 => ?_
        ·
         cases r19
         ·
          have qr21 := hr19
          refine ops_yes rfl rfl (ops_val (yld_field Tryz.runUnderlying41 rfl rfl rfl Tryz.sizeOf39) rfl ?_)
          refine ops_yes rfl rfl (ops_val (yld_load 0 Tryz.isAgg39 rfl rfl rfl) rfl ?_)
          refine ops_yes rfl rfl (ops_val (yld_lenS Tryz.runUnderlying39 rfl) rfl ?_)
          refine ops_yes rfl rfl (ops_val (yld_move rfl) rfl (ops_yes rfl rfl (ops_valB (yld_gtr rfl rfl) rfl fun r22 hr22 => ?_)))
          refine ops_val (yld_pick_f rfl rfl) rfl ?_
          refine ops_nil (fin_inv rfl ?_)
          exact met ⟨rfl, rfl, rfl, rfl, rfl, rfl, rfl, (get_bool rfl (jof qr21 hr22)), trivial⟩
         ·
          have qr21 := hr19
          refine ops_no rfl rfl rfl rfl (ops_no rfl rfl rfl rfl (ops_no rfl rfl rfl rfl (ops_no rfl rfl rfl rfl (ops_no rfl rfl rfl rfl (ops_val (yld_pick_t rfl rfl) rfl ?_)))))
          refine ops_nil (fin_inv rfl ?_)
          exact met ⟨rfl, rfl, rfl, rfl, rfl, rfl, rfl, (get_bool rfl (jot qr21)), trivial⟩
        ·
         refine ops_nil (fin_next rfl ?_)
         cases r21
         ·
          have hsh : x.shaped = true := by rw [Ax.shaped_ref hu, hr21]; rfl
          refine run_cond_f rfl (run_skip (fin_next rfl (run_seq (run_seq (run_region (ops_val (yld_move rfl) rfl (ops_val (yld_move rfl) rfl ?_)))))))
          refine ops_cut 5 ((uo) && (!(plainS (Ax.role x)))) (fun r => [(1, .pointer (some ⟨b1, 0, none⟩)), (2, .int .i64 0), (3, .bool ul), (4, .bool ur), (6, .bool ua), (7, .bool ub), (99, .bool r)]) ?_ fun r23 hr23 => ?_
          ·
           cases uo
           ·
            refine ops_no rfl rfl rfl rfl (ops_no rfl rfl rfl rfl (ops_no rfl rfl rfl rfl (ops_no rfl rfl rfl rfl (ops_val (yld_pick_f rfl rfl) rfl ?_))))
            refine ops_nil (fin_inv rfl ?_)
            exact met ⟨rfl, rfl, rfl, rfl, rfl, rfl, (get_bool rfl (jaf rfl)), trivial⟩
           ·
            refine ops_yes rfl rfl (ops_val (yld_field Tryz.runUnderlying41 rfl rfl rfl Tryz.sizeOf9) rfl ?_)
            refine ops_yes rfl rfl (ops_val (yld_load 0 Tryz.isAgg9 rfl rfl rfl) rfl ?_)
            refine ops_yes rfl rfl (ops_callB (rPlain_c _) rfl pf_nil (fun _ _ _ => by exact trivial) rfl fun r24 hr24 => ?_)
            refine ops_yes rfl rfl (ops_val (yld_not rfl) rfl ?_)
            refine ops_val (yld_pick_t rfl rfl) rfl ?_
            refine ops_nil (fin_inv rfl ?_)
            exact met ⟨rfl, rfl, rfl, rfl, rfl, rfl, (get_bool rfl (jat rfl (jn hr24))), trivial⟩
          ·
           refine ops_nil (fin_next rfl ?_)
           cases r23
           ·
            refine run_cond_f rfl (run_skip (fin_next rfl (run_seq (run_seq (run_region (ops_val (yld_assign rfl) rfl (ops_nil ?_)))))))
            refine fin_next rfl (run_block (ok_fr [(1, .pointer (some ⟨b1, 0, none⟩)), (3, .bool ul), (4, .bool ur), (6, .bool ua), (7, .bool ub), (10, .int .i64 ((0 : Nat) : Int))] ⟨rfl, rfl, rfl, rfl, rfl, rfl, trivial⟩ ?_))
            refine run_loop (ι := {q : Nat // q ≤ x.roles.length ∧ (x.roles.take q).all plainS = true}) (fun i => [(1, .pointer (some ⟨b1, 0, none⟩)), (3, .bool ul), (4, .bool ur), (6, .bool ua), (7, .bool ub), (10, .int .i64 (i.1 : Int))]) (fun _ => _) (fun _ => _) (fun i => x.roles.length - i.1) ⟨0, by simp⟩ ?_
            rintro ⟨i, hk⟩
            refine ok_fr [(1, .pointer (some ⟨b1, 0, none⟩)), (3, .bool ul), (4, .bool ur), (6, .bool ua), (7, .bool ub), (10, .int .i64 (i : Int))] ⟨rfl, rfl, rfl, rfl, rfl, rfl, trivial⟩ ?_
            refine run_seq (run_seq (run_region (ops_val (yld_move rfl) rfl (ops_val (yld_field Tryz.runUnderlying41 rfl rfl rfl Tryz.sizeOf39) rfl ?_))))
            refine ops_val (yld_load 0 Tryz.isAgg39 rfl rfl rfl) rfl ?_
            refine ops_val (yld_lenS Tryz.runUnderlying39 rfl) rfl ?_
            refine ops_valB (yld_lss rfl rfl) rfl fun r25 hr25 => ?_
            refine ops_nil (fin_next rfl ?_)
            cases r25
            ·
             replace hr25 := of_decide_eq_false hr25
             refine run_cond_f rfl (run_exit rfl (fin_next rfl (run_seq (run_seq (run_region (ops_val (yld_move rfl) rfl (ops_val (yld_move rfl) rfl ?_)))))))
             refine ops_cut 5 ((ua) && (!(personS (Ax.a x)))) (fun r => [(1, .pointer (some ⟨b1, 0, none⟩)), (3, .bool ul), (4, .bool ur), (7, .bool ub), (120, .bool r)]) ?_ fun r26 hr26 => ?_
             ·
              cases ua
              ·
               refine ops_no rfl rfl rfl rfl (ops_no rfl rfl rfl rfl (ops_no rfl rfl rfl rfl (ops_no rfl rfl rfl rfl (ops_val (yld_pick_f rfl rfl) rfl ?_))))
               refine ops_nil (fin_inv rfl ?_)
               exact met ⟨rfl, rfl, rfl, rfl, (get_bool rfl (jaf rfl)), trivial⟩
              ·
               refine ops_yes rfl rfl (ops_val (yld_field Tryz.runUnderlying41 rfl rfl rfl Tryz.sizeOf9) rfl ?_)
               refine ops_yes rfl rfl (ops_val (yld_load 0 Tryz.isAgg9 rfl rfl rfl) rfl ?_)
               refine ops_yes rfl rfl (ops_callB (rPerson_c _) rfl pf_nil (fun _ _ _ => by exact trivial) rfl fun r27 hr27 => ?_)
               refine ops_yes rfl rfl (ops_val (yld_not rfl) rfl ?_)
               refine ops_val (yld_pick_t rfl rfl) rfl ?_
               refine ops_nil (fin_inv rfl ?_)
               exact met ⟨rfl, rfl, rfl, rfl, (get_bool rfl (jat rfl (jn hr27))), trivial⟩
             ·
              refine ops_val (yld_move rfl) rfl ?_
              refine ops_cut 8 ((((ua) && (!(personS (Ax.a x))))) || (((ub) && (!(personS (Ax.b x)))))) (fun r => [(1, .pointer (some ⟨b1, 0, none⟩)), (3, .bool ul), (4, .bool ur), (129, .bool r)]) ?_ fun r28 hr28 => ?_
              ·
               cases r26
               ·
                have qr28 := hr26
                refine ops_yes rfl rfl (ops_val (yld_move rfl) rfl (ops_yes rfl rfl (ops_val (yld_move rfl) rfl ?_)))
                refine ops_cut 5 ((ub) && (!(personS (Ax.b x)))) (fun r => [(1, .pointer (some ⟨b1, 0, none⟩)), (3, .bool ul), (4, .bool ur), (7, .bool ub), (121, .bool false), (128, .bool r)]) ?_ fun r29 hr29 => ?_
                ·
                 cases ub
                 ·
                  refine ops_no rfl rfl rfl rfl (ops_no rfl rfl rfl rfl (ops_no rfl rfl rfl rfl (ops_no rfl rfl rfl rfl (ops_yes rfl rfl (ops_val (yld_pick_f rfl rfl) rfl ?_)))))
                  refine ops_nil (fin_inv rfl ?_)
                  exact met ⟨rfl, rfl, rfl, rfl, rfl, (get_bool rfl (jaf rfl)), trivial⟩
                 ·
                  refine ops_yes rfl rfl (ops_val (yld_field Tryz.runUnderlying41 rfl rfl rfl Tryz.sizeOf9) rfl ?_)
                  refine ops_yes rfl rfl (ops_val (yld_load 0 Tryz.isAgg9 rfl rfl rfl) rfl ?_)
                  refine ops_yes rfl rfl (ops_callB (rPerson_c _) rfl pf_nil (fun _ _ _ => by exact trivial) rfl fun r30 hr30 => ?_)
                  refine ops_yes rfl rfl (ops_val (yld_not rfl) rfl ?_)
                  refine ops_yes rfl rfl (ops_val (yld_pick_t rfl rfl) rfl ?_)
                  refine ops_nil (fin_inv rfl ?_)
                  exact met ⟨rfl, rfl, rfl, rfl, rfl, (get_bool rfl (jat rfl (jn hr30))), trivial⟩
                ·
                 refine ops_val (yld_pick_f rfl rfl) rfl ?_
                 refine ops_nil (fin_inv rfl ?_)
                 exact met ⟨rfl, rfl, rfl, (get_bool rfl (jof qr28 hr29)), trivial⟩
               ·
                have qr28 := hr26
                refine ops_no rfl rfl rfl rfl (ops_no rfl rfl rfl rfl (ops_no rfl rfl rfl rfl (ops_no rfl rfl rfl rfl (ops_no rfl rfl rfl rfl (ops_no rfl rfl rfl rfl (ops_no rfl rfl rfl rfl (ops_val (yld_pick_t rfl rfl) rfl ?_)))))))
                refine ops_nil (fin_inv rfl ?_)
                exact met ⟨rfl, rfl, rfl, (get_bool rfl (jot qr28)), trivial⟩
              ·
               refine ops_nil (fin_next rfl ?_)
               cases r28
               ·
                refine run_cond_f rfl (run_skip (fin_next rfl (run_seq (run_seq ?_))))
                have hnm : x.namedU (us x.kind) = true := by rw [hu]; unfold Ax.namedU; have := hk.2; rw [List.take_of_length_le (by omega)] at this; rw [this]; clear hsh hu; cases uo <;> cases ua <;> cases ub <;> simp_all
                refine run_region (ops_val (yld_move rfl) rfl (ops_nil (fin_next rfl ?_)))
                cases ul
                ·
                 refine run_cond_f rfl (run_skip (fin_next rfl (run_seq (run_seq (run_region (ops_val (yld_move rfl) rfl (ops_nil ?_)))))))
                 refine fin_next rfl ?_
                 cases ur
                 ·
                  refine run_cond_f rfl (run_skip (fin_next rfl (run_seq (run_seq (run_region (ops_val (yld_move rfl) rfl (ops_val (yld_move rfl) rfl ?_)))))))
                  refine ops_no rfl rfl rfl rfl (ops_no rfl rfl rfl rfl (ops_no rfl rfl rfl rfl (ops_val (yld_pick_f rfl rfl) rfl ?_)))
                  refine ops_val (yld_move rfl) rfl (ops_no rfl rfl rfl rfl (ops_no rfl rfl rfl rfl (ops_no rfl rfl rfl rfl (ops_val (yld_pick_f rfl rfl) rfl ?_))))
                  refine ops_val (yld_move rfl) rfl (ops_yes rfl rfl (ops_val (yld_field Tryz.runUnderlying41 rfl rfl rfl Tryz.sizeOf3) rfl ?_))
                  refine ops_yes rfl rfl (ops_val (yld_load 0 Tryz.isAgg3 rfl rfl rfl) rfl ?_)
                  refine ops_yes rfl rfl (ops_valB (yld_eql rfl rfl) rfl fun r31 hr31 => ?_)
                  refine ops_yes rfl rfl (ops_val (yld_move rfl) rfl ?_)
                  refine ops_cut 4 (((Ax.kind x) == 2) && (Con.rbare (Ax.left x))) (fun r => [(155, .bool false), (163, .bool r)]) ?_ fun r32 hr32 => ?_
                  ·
                   cases r31
                   ·
                    have qr32 := hr31
                    replace hr31 := ne_of_beq_false hr31
                    refine ops_no rfl rfl rfl rfl (ops_no rfl rfl rfl rfl (ops_no rfl rfl rfl rfl (ops_yes rfl rfl (ops_val (yld_pick_f rfl rfl) rfl ?_))))
                    refine ops_nil (fin_inv rfl ?_)
                    exact met ⟨rfl, (get_bool rfl (jaf qr32)), trivial⟩
                   ·
                    have qr32 := hr31
                    replace hr31 := eq_of_beq hr31
                    refine ops_yes rfl rfl (ops_val (yld_field Tryz.runUnderlying41 rfl rfl rfl Tryz.sizeOf38) rfl ?_)
                    refine ops_yes rfl rfl (ops_val (yld_loadS 0 Tryz.isAgg38 Tryz.sizeOf38 rfl rfl rfl) rfl ?_)
                    refine ops_yes rfl rfl (ops_callB (rBare_c _ (Ax.left x) (Nat.le_refl _) hok.left) rfl pf_nil (fun v _ h => by exact ⟨h.1.1, trivial⟩) rfl fun r33 hr33 => ?_)
                    refine ops_yes rfl rfl (ops_val (yld_pick_t rfl rfl) rfl ?_)
                    refine ops_nil (fin_inv rfl ?_)
                    exact met ⟨rfl, (get_bool rfl (jat qr32 hr33)), trivial⟩
                  ·
                   refine ops_val (yld_pick_f rfl rfl) rfl ?_
                   refine ops_nil (fin_next rfl ?_)
                   cases r32
                   ·
                    refine run_cond_f rfl (run_skip (fin_next rfl (run_seq (run_region (ops_val (yld_assign rfl) rfl (ops_nil (fin_next rfl ?_)))))))
                    refine run_ret ?_
                    exact ret1 Tryz.results42 () (get_int rfl (by rw [Ax.check_last hsh hnm (by rw [hu]; intro q; first | assumption | cases q) (by rw [hu]; intro q; first | assumption | cases q), hu]; simp only [Bool.false_and, Bool.false_or, Bool.true_and]; rw [hr32]; rfl)) pf_nil (fun _ _ _ => trivial)
                   ·
                    refine run_cond_t rfl (run_seq (run_region (ops_val (yld_assign rfl) rfl (ops_nil (fin_next rfl (run_ret ?_))))))
                    exact ret1 Tryz.results42 () (get_int rfl (by rw [Ax.check_last hsh hnm (by rw [hu]; intro q; first | assumption | cases q) (by rw [hu]; intro q; first | assumption | cases q), hu]; simp only [Bool.false_and, Bool.false_or, Bool.true_and]; rw [hr32]; rfl)) pf_nil (fun _ _ _ => trivial)
                 ·
                  refine run_cond_t rfl (run_seq (run_region (ops_val (yld_field Tryz.runUnderlying41 rfl rfl rfl Tryz.sizeOf38) rfl ?_)))
                  refine ops_val (yld_loadS 0 Tryz.isAgg38 Tryz.sizeOf38 rfl rfl rfl) rfl ?_
                  refine ops_call (rCheckConcept_c (Ax.right x) hok.right (by omega)) rfl pf_nil (fun v _ h => by exact ⟨h.1.2.1, trivial⟩) rfl fun _ => ?_
                  refine ops_val (yld_assign rfl) rfl (ops_nil (fin_next rfl (run_seq (run_region (ops_val (yld_move rfl) rfl (ops_valB (yld_neq rfl rfl) rfl fun r34 hr34 => ?_))))))
                  refine ops_nil (fin_next rfl ?_)
                  cases r34
                  ·
                   replace hr34 := eq_of_bne hr34
                   refine run_cond_f rfl (run_skip (fin_next rfl (run_seq (run_seq (run_region (ops_val (yld_move rfl) rfl (ops_val (yld_move rfl) rfl ?_)))))))
                   refine ops_yes rfl rfl (ops_val (yld_field Tryz.runUnderlying41 rfl rfl rfl Tryz.sizeOf3) rfl ?_)
                   refine ops_yes rfl rfl (ops_val (yld_load 0 Tryz.isAgg3 rfl rfl rfl) rfl ?_)
                   refine ops_yes rfl rfl (ops_valB (yld_neq rfl rfl) rfl fun r35 hr35 => ?_)
                   refine ops_val (yld_pick_t rfl rfl) rfl ?_
                   refine ops_val (yld_move rfl) rfl ?_
                   refine ops_cut 4 (((Ax.kind x) != 3) && (Con.rbare (Ax.right x))) (fun r => [(1, .pointer (some ⟨b1, 0, none⟩)), (154, .bool r)]) ?_ fun r36 hr36 => ?_
                   ·
                    cases r35
                    ·
                     have qr36 := hr35
                     replace hr35 := eq_of_bne hr35
                     refine ops_no rfl rfl rfl rfl (ops_no rfl rfl rfl rfl (ops_no rfl rfl rfl rfl (ops_val (yld_pick_f rfl rfl) rfl ?_)))
                     refine ops_nil (fin_inv rfl ?_)
                     exact met ⟨rfl, (get_bool rfl (jaf qr36)), trivial⟩
                    ·
                     have qr36 := hr35
                     replace hr35 := ne_of_bne hr35
                     refine ops_yes rfl rfl (ops_val (yld_field Tryz.runUnderlying41 rfl rfl rfl Tryz.sizeOf38) rfl ?_)
                     refine ops_yes rfl rfl (ops_val (yld_loadS 0 Tryz.isAgg38 Tryz.sizeOf38 rfl rfl rfl) rfl ?_)
                     refine ops_yes rfl rfl (ops_callB (rBare_c _ (Ax.right x) (Nat.le_refl _) hok.right) rfl pf_nil (fun v _ h => by exact ⟨h.1.2.1, trivial⟩) rfl fun r37 hr37 => ?_)
                     refine ops_val (yld_pick_t rfl rfl) rfl ?_
                     refine ops_nil (fin_inv rfl ?_)
                     exact met ⟨rfl, (get_bool rfl (jat qr36 hr37)), trivial⟩
                   ·
                    refine ops_val (yld_move rfl) rfl ?_
                    refine ops_cut 9 (((((Ax.kind x) != 3) && (Con.rbare (Ax.right x)))) || ((((Ax.kind x) == 2) && (Con.rbare (Ax.left x))))) (fun r => [(164, .bool r)]) ?_ fun r38 hr38 => ?_
                    ·
                     cases r36
                     ·
                      have qr38 := hr36
                      refine ops_yes rfl rfl (ops_val (yld_field Tryz.runUnderlying41 rfl rfl rfl Tryz.sizeOf3) rfl ?_)
                      refine ops_yes rfl rfl (ops_val (yld_load 0 Tryz.isAgg3 rfl rfl rfl) rfl ?_)
                      refine ops_yes rfl rfl (ops_valB (yld_eql rfl rfl) rfl fun r39 hr39 => ?_)
                      refine ops_yes rfl rfl (ops_val (yld_move rfl) rfl ?_)
                      refine ops_cut 4 (((Ax.kind x) == 2) && (Con.rbare (Ax.left x))) (fun r => [(1, .pointer (some ⟨b1, 0, none⟩)), (155, .bool false), (163, .bool r)]) ?_ fun r40 hr40 => ?_
                      ·
                       cases r39
                       ·
                        have qr40 := hr39
                        replace hr39 := ne_of_beq_false hr39
                        refine ops_no rfl rfl rfl rfl (ops_no rfl rfl rfl rfl (ops_no rfl rfl rfl rfl (ops_yes rfl rfl (ops_val (yld_pick_f rfl rfl) rfl ?_))))
                        refine ops_nil (fin_inv rfl ?_)
                        exact met ⟨rfl, rfl, (get_bool rfl (jaf qr40)), trivial⟩
                       ·
                        have qr40 := hr39
                        replace hr39 := eq_of_beq hr39
                        refine ops_yes rfl rfl (ops_val (yld_field Tryz.runUnderlying41 rfl rfl rfl Tryz.sizeOf38) rfl ?_)
                        refine ops_yes rfl rfl (ops_val (yld_loadS 0 Tryz.isAgg38 Tryz.sizeOf38 rfl rfl rfl) rfl ?_)
                        refine ops_yes rfl rfl (ops_callB (rBare_c _ (Ax.left x) (Nat.le_refl _) hok.left) rfl pf_nil (fun v _ h => by exact ⟨h.1.1, trivial⟩) rfl fun r41 hr41 => ?_)
                        refine ops_yes rfl rfl (ops_val (yld_pick_t rfl rfl) rfl ?_)
                        refine ops_nil (fin_inv rfl ?_)
                        exact met ⟨rfl, rfl, (get_bool rfl (jat qr40 hr41)), trivial⟩
                      ·
                       refine ops_val (yld_pick_f rfl rfl) rfl ?_
                       refine ops_nil (fin_inv rfl ?_)
                       exact met ⟨(get_bool rfl (jof qr38 hr40)), trivial⟩
                     ·
                      have qr38 := hr36
                      refine ops_no rfl rfl rfl rfl (ops_no rfl rfl rfl rfl (ops_no rfl rfl rfl rfl (ops_no rfl rfl rfl rfl (ops_no rfl rfl rfl rfl (ops_no rfl rfl rfl rfl (ops_no rfl rfl rfl rfl (ops_no rfl rfl rfl rfl ?_)))))))
                      refine ops_val (yld_pick_t rfl rfl) rfl ?_
                      refine ops_nil (fin_inv rfl ?_)
                      exact met ⟨(get_bool rfl (jot qr38)), trivial⟩
                    ·
                     refine ops_nil (fin_next rfl ?_)
                     cases r38
                     ·
                      refine run_cond_f rfl (run_skip (fin_next rfl (run_seq (run_region (ops_val (yld_assign rfl) rfl (ops_nil (fin_next rfl ?_)))))))
                      refine run_ret ?_
                      exact ret1 Tryz.results42 () (get_int rfl (by rw [Ax.check_last hsh hnm (by rw [hu]; intro q; first | assumption | cases q) (by rw [hu]; intro q; first | assumption | cases q), hu]; simp only [Bool.false_and, Bool.false_or, Bool.true_and]; rw [hr38]; rfl)) pf_nil (fun _ _ _ => trivial)
                     ·
                      refine run_cond_t rfl (run_seq (run_region (ops_val (yld_assign rfl) rfl (ops_nil (fin_next rfl (run_ret ?_))))))
                      exact ret1 Tryz.results42 () (get_int rfl (by rw [Ax.check_last hsh hnm (by rw [hu]; intro q; first | assumption | cases q) (by rw [hu]; intro q; first | assumption | cases q), hu]; simp only [Bool.false_and, Bool.false_or, Bool.true_and]; rw [hr38]; rfl)) pf_nil (fun _ _ _ => trivial)
                  ·
                   replace hr34 := ne_of_bne hr34
                   refine run_cond_t rfl (run_seq (run_region (ops_val (yld_move rfl) rfl (ops_val (yld_assign rfl) rfl (ops_nil (fin_next rfl (run_ret ?_)))))))
                   exact ret1 Tryz.results42 () (get_int rfl (by symm; exact Ax.check_right hsh hnm (by rw [hu]; intro q; first | assumption | cases q) (by rw [hu]) (by assumption))) pf_nil (fun _ _ _ => trivial)
                ·
                 refine run_cond_t rfl (run_seq (run_region (ops_val (yld_field Tryz.runUnderlying41 rfl rfl rfl Tryz.sizeOf38) rfl ?_)))
                 refine ops_val (yld_loadS 0 Tryz.isAgg38 Tryz.sizeOf38 rfl rfl rfl) rfl ?_
                 refine ops_call (rCheckConcept_c (Ax.left x) hok.left (by omega)) rfl pf_nil (fun v _ h => by exact ⟨h.1.1, trivial⟩) rfl fun _ => ?_
                 refine ops_val (yld_assign rfl) rfl (ops_nil (fin_next rfl (run_seq (run_region (ops_val (yld_move rfl) rfl (ops_valB (yld_neq rfl rfl) rfl fun r42 hr42 => ?_))))))
                 refine ops_nil (fin_next rfl ?_)
                 cases r42
                 ·
                  replace hr42 := eq_of_bne hr42
                  refine run_cond_f rfl (run_skip (fin_next rfl (run_seq (run_seq (run_region (ops_val (yld_move rfl) rfl (ops_nil ?_)))))))
                  refine fin_next rfl ?_
                  cases ur
                  ·
                   refine run_cond_f rfl (run_skip (fin_next rfl (run_seq (run_seq (run_region (ops_val (yld_move rfl) rfl (ops_val (yld_move rfl) rfl ?_)))))))
                   refine ops_no rfl rfl rfl rfl (ops_no rfl rfl rfl rfl (ops_no rfl rfl rfl rfl (ops_val (yld_pick_f rfl rfl) rfl ?_)))
                   refine ops_val (yld_move rfl) rfl (ops_no rfl rfl rfl rfl (ops_no rfl rfl rfl rfl (ops_no rfl rfl rfl rfl (ops_val (yld_pick_f rfl rfl) rfl ?_))))
                   refine ops_val (yld_move rfl) rfl (ops_yes rfl rfl (ops_val (yld_field Tryz.runUnderlying41 rfl rfl rfl Tryz.sizeOf3) rfl ?_))
                   refine ops_yes rfl rfl (ops_val (yld_load 0 Tryz.isAgg3 rfl rfl rfl) rfl ?_)
                   refine ops_yes rfl rfl (ops_valB (yld_eql rfl rfl) rfl fun r43 hr43 => ?_)
                   refine ops_yes rfl rfl (ops_val (yld_move rfl) rfl ?_)
                   refine ops_cut 4 (((Ax.kind x) == 2) && (Con.rbare (Ax.left x))) (fun r => [(155, .bool false), (163, .bool r)]) ?_ fun r44 hr44 => ?_
                   ·
                    cases r43
                    ·
                     have qr44 := hr43
                     replace hr43 := ne_of_beq_false hr43
                     refine ops_no rfl rfl rfl rfl (ops_no rfl rfl rfl rfl (ops_no rfl rfl rfl rfl (ops_yes rfl rfl (ops_val (yld_pick_f rfl rfl) rfl ?_))))
                     refine ops_nil (fin_inv rfl ?_)
                     exact met ⟨rfl, (get_bool rfl (jaf qr44)), trivial⟩
                    ·
                     have qr44 := hr43
                     replace hr43 := eq_of_beq hr43
                     refine ops_yes rfl rfl (ops_val (yld_field Tryz.runUnderlying41 rfl rfl rfl Tryz.sizeOf38) rfl ?_)
                     refine ops_yes rfl rfl (ops_val (yld_loadS 0 Tryz.isAgg38 Tryz.sizeOf38 rfl rfl rfl) rfl ?_)
                     refine ops_yes rfl rfl (ops_callB (rBare_c _ (Ax.left x) (Nat.le_refl _) hok.left) rfl pf_nil (fun v _ h => by exact ⟨h.1.1, trivial⟩) rfl fun r45 hr45 => ?_)
                     refine ops_yes rfl rfl (ops_val (yld_pick_t rfl rfl) rfl ?_)
                     refine ops_nil (fin_inv rfl ?_)
                     exact met ⟨rfl, (get_bool rfl (jat qr44 hr45)), trivial⟩
                   ·
                    refine ops_val (yld_pick_f rfl rfl) rfl ?_
                    refine ops_nil (fin_next rfl ?_)
                    cases r44
                    ·
                     refine run_cond_f rfl (run_skip (fin_next rfl (run_seq (run_region (ops_val (yld_assign rfl) rfl (ops_nil (fin_next rfl ?_)))))))
                     refine run_ret ?_
                     exact ret1 Tryz.results42 () (get_int rfl (by rw [Ax.check_last hsh hnm (by rw [hu]; intro q; first | assumption | cases q) (by rw [hu]; intro q; first | assumption | cases q), hu]; simp only [Bool.false_and, Bool.false_or, Bool.true_and]; rw [hr44]; rfl)) pf_nil (fun _ _ _ => trivial)
                    ·
                     refine run_cond_t rfl (run_seq (run_region (ops_val (yld_assign rfl) rfl (ops_nil (fin_next rfl (run_ret ?_))))))
                     exact ret1 Tryz.results42 () (get_int rfl (by rw [Ax.check_last hsh hnm (by rw [hu]; intro q; first | assumption | cases q) (by rw [hu]; intro q; first | assumption | cases q), hu]; simp only [Bool.false_and, Bool.false_or, Bool.true_and]; rw [hr44]; rfl)) pf_nil (fun _ _ _ => trivial)
                  ·
                   refine run_cond_t rfl (run_seq (run_region (ops_val (yld_field Tryz.runUnderlying41 rfl rfl rfl Tryz.sizeOf38) rfl ?_)))
                   refine ops_val (yld_loadS 0 Tryz.isAgg38 Tryz.sizeOf38 rfl rfl rfl) rfl ?_
                   refine ops_call (rCheckConcept_c (Ax.right x) hok.right (by omega)) rfl pf_nil (fun v _ h => by exact ⟨h.1.2.1, trivial⟩) rfl fun _ => ?_
                   refine ops_val (yld_assign rfl) rfl (ops_nil (fin_next rfl (run_seq (run_region (ops_val (yld_move rfl) rfl (ops_valB (yld_neq rfl rfl) rfl fun r46 hr46 => ?_))))))
                   refine ops_nil (fin_next rfl ?_)
                   cases r46
                   ·
                    replace hr46 := eq_of_bne hr46
                    refine run_cond_f rfl (run_skip (fin_next rfl (run_seq (run_seq (run_region (ops_val (yld_move rfl) rfl (ops_val (yld_move rfl) rfl ?_)))))))
                    refine ops_yes rfl rfl (ops_val (yld_field Tryz.runUnderlying41 rfl rfl rfl Tryz.sizeOf3) rfl ?_)
                    refine ops_yes rfl rfl (ops_val (yld_load 0 Tryz.isAgg3 rfl rfl rfl) rfl ?_)
                    refine ops_yes rfl rfl (ops_valB (yld_neq rfl rfl) rfl fun r47 hr47 => ?_)
                    refine ops_val (yld_pick_t rfl rfl) rfl ?_
                    refine ops_val (yld_move rfl) rfl ?_
                    refine ops_cut 4 (((Ax.kind x) != 3) && (Con.rbare (Ax.right x))) (fun r => [(1, .pointer (some ⟨b1, 0, none⟩)), (154, .bool r)]) ?_ fun r48 hr48 => ?_
                    ·
                     cases r47
                     ·
                      have qr48 := hr47
                      replace hr47 := eq_of_bne hr47
                      refine ops_no rfl rfl rfl rfl (ops_no rfl rfl rfl rfl (ops_no rfl rfl rfl rfl (ops_val (yld_pick_f rfl rfl) rfl ?_)))
                      refine ops_nil (fin_inv rfl ?_)
                      exact met ⟨rfl, (get_bool rfl (jaf qr48)), trivial⟩
                     ·
                      have qr48 := hr47
                      replace hr47 := ne_of_bne hr47
                      refine ops_yes rfl rfl (ops_val (yld_field Tryz.runUnderlying41 rfl rfl rfl Tryz.sizeOf38) rfl ?_)
                      refine ops_yes rfl rfl (ops_val (yld_loadS 0 Tryz.isAgg38 Tryz.sizeOf38 rfl rfl rfl) rfl ?_)
                      refine ops_yes rfl rfl (ops_callB (rBare_c _ (Ax.right x) (Nat.le_refl _) hok.right) rfl pf_nil (fun v _ h => by exact ⟨h.1.2.1, trivial⟩) rfl fun r49 hr49 => ?_)
                      refine ops_val (yld_pick_t rfl rfl) rfl ?_
                      refine ops_nil (fin_inv rfl ?_)
                      exact met ⟨rfl, (get_bool rfl (jat qr48 hr49)), trivial⟩
                    ·
                     refine ops_val (yld_move rfl) rfl ?_
                     refine ops_cut 9 (((((Ax.kind x) != 3) && (Con.rbare (Ax.right x)))) || ((((Ax.kind x) == 2) && (Con.rbare (Ax.left x))))) (fun r => [(164, .bool r)]) ?_ fun r50 hr50 => ?_
                     ·
                      cases r48
                      ·
                       have qr50 := hr48
                       refine ops_yes rfl rfl (ops_val (yld_field Tryz.runUnderlying41 rfl rfl rfl Tryz.sizeOf3) rfl ?_)
                       refine ops_yes rfl rfl (ops_val (yld_load 0 Tryz.isAgg3 rfl rfl rfl) rfl ?_)
                       refine ops_yes rfl rfl (ops_valB (yld_eql rfl rfl) rfl fun r51 hr51 => ?_)
                       refine ops_yes rfl rfl (ops_val (yld_move rfl) rfl ?_)
                       refine ops_cut 4 (((Ax.kind x) == 2) && (Con.rbare (Ax.left x))) (fun r => [(1, .pointer (some ⟨b1, 0, none⟩)), (155, .bool false), (163, .bool r)]) ?_ fun r52 hr52 => ?_
                       ·
                        cases r51
                        ·
                         have qr52 := hr51
                         replace hr51 := ne_of_beq_false hr51
                         refine ops_no rfl rfl rfl rfl (ops_no rfl rfl rfl rfl (ops_no rfl rfl rfl rfl (ops_yes rfl rfl (ops_val (yld_pick_f rfl rfl) rfl ?_))))
                         refine ops_nil (fin_inv rfl ?_)
                         exact met ⟨rfl, rfl, (get_bool rfl (jaf qr52)), trivial⟩
                        ·
                         have qr52 := hr51
                         replace hr51 := eq_of_beq hr51
                         refine ops_yes rfl rfl (ops_val (yld_field Tryz.runUnderlying41 rfl rfl rfl Tryz.sizeOf38) rfl ?_)
                         refine ops_yes rfl rfl (ops_val (yld_loadS 0 Tryz.isAgg38 Tryz.sizeOf38 rfl rfl rfl) rfl ?_)
                         refine ops_yes rfl rfl (ops_callB (rBare_c _ (Ax.left x) (Nat.le_refl _) hok.left) rfl pf_nil (fun v _ h => by exact ⟨h.1.1, trivial⟩) rfl fun r53 hr53 => ?_)
                         refine ops_yes rfl rfl (ops_val (yld_pick_t rfl rfl) rfl ?_)
                         refine ops_nil (fin_inv rfl ?_)
                         exact met ⟨rfl, rfl, (get_bool rfl (jat qr52 hr53)), trivial⟩
                       ·
                        refine ops_val (yld_pick_f rfl rfl) rfl ?_
                        refine ops_nil (fin_inv rfl ?_)
                        exact met ⟨(get_bool rfl (jof qr50 hr52)), trivial⟩
                      ·
                       have qr50 := hr48
                       refine ops_no rfl rfl rfl rfl (ops_no rfl rfl rfl rfl (ops_no rfl rfl rfl rfl (ops_no rfl rfl rfl rfl (ops_no rfl rfl rfl rfl (ops_no rfl rfl rfl rfl (ops_no rfl rfl rfl rfl (ops_no rfl rfl rfl rfl ?_)))))))
                       refine ops_val (yld_pick_t rfl rfl) rfl ?_
                       refine ops_nil (fin_inv rfl ?_)
                       exact met ⟨(get_bool rfl (jot qr50)), trivial⟩
                     ·
                      refine ops_nil (fin_next rfl ?_)
                      cases r50
                      ·
                       refine run_cond_f rfl (run_skip (fin_next rfl (run_seq (run_region (ops_val (yld_assign rfl) rfl (ops_nil (fin_next rfl ?_)))))))
                       refine run_ret ?_
                       exact ret1 Tryz.results42 () (get_int rfl (by rw [Ax.check_last hsh hnm (by rw [hu]; intro q; first | assumption | cases q) (by rw [hu]; intro q; first | assumption | cases q), hu]; simp only [Bool.false_and, Bool.false_or, Bool.true_and]; rw [hr50]; rfl)) pf_nil (fun _ _ _ => trivial)
                      ·
                       refine run_cond_t rfl (run_seq (run_region (ops_val (yld_assign rfl) rfl (ops_nil (fin_next rfl (run_ret ?_))))))
                       exact ret1 Tryz.results42 () (get_int rfl (by rw [Ax.check_last hsh hnm (by rw [hu]; intro q; first | assumption | cases q) (by rw [hu]; intro q; first | assumption | cases q), hu]; simp only [Bool.false_and, Bool.false_or, Bool.true_and]; rw [hr50]; rfl)) pf_nil (fun _ _ _ => trivial)
                   ·
                    replace hr46 := ne_of_bne hr46
                    refine run_cond_t rfl (run_seq (run_region (ops_val (yld_move rfl) rfl (ops_val (yld_assign rfl) rfl (ops_nil (fin_next rfl (run_ret ?_)))))))
                    exact ret1 Tryz.results42 () (get_int rfl (by symm; exact Ax.check_right hsh hnm (by rw [hu]; intro q; first | assumption | cases q) (by rw [hu]) (by assumption))) pf_nil (fun _ _ _ => trivial)
                 ·
                  replace hr42 := ne_of_bne hr42
                  refine run_cond_t rfl (run_seq (run_region (ops_val (yld_move rfl) rfl (ops_val (yld_assign rfl) rfl (ops_nil (fin_next rfl (run_ret ?_)))))))
                  exact ret1 Tryz.results42 () (get_int rfl (by symm; exact Ax.check_left hsh hnm (by rw [hu]) (by assumption))) pf_nil (fun _ _ _ => trivial)
               ·
                refine run_cond_t rfl (run_seq (run_region (ops_val (yld_assign rfl) rfl (ops_nil (fin_next rfl (run_ret ?_))))))
                exact ret1 Tryz.results42 () (get_int rfl (by symm; apply Ax.check_20 hsh; rw [hu]; unfold Ax.namedU; rw [Bool.or_assoc, hr28]; simp)) pf_nil (fun _ _ _ => trivial)
            ·
             replace hr25 := of_decide_eq_true hr25
             have hlx1 : i < List.length (Ax.roles x) := by omega
             obtain ⟨x1, hx1⟩ : ∃ e0, (Ax.roles x)[i]? = some e0 := ⟨_, List.getElem?_eq_getElem hlx1⟩
             have hmx1 : x1 ∈ (Ax.roles x) := List.mem_of_getElem? hx1
             refine run_cond_t rfl (run_skip (fin_next rfl (run_seq (run_block (run_seq (run_region (ops_val (yld_field Tryz.runUnderlying41 rfl rfl rfl Tryz.sizeOf39) rfl ?_)))))))
             refine ops_val (yld_load 0 Tryz.isAgg39 rfl rfl rfl) rfl ?_
             refine ops_val (yld_move rfl) rfl (ops_val (yld_indexR Tryz.runUnderlying39 Tryz.sizeOf9 rfl rfl (fun v _ h => row_adr (n := 1) strC_len (by decide) (by exact h.1.2.2) hx1) (by omega) (by first | omega | (simp; done))) rfl ?_)
             refine ops_val (yld_loadR (ad := (Ax.ad x)) Tryz.isAgg9 rfl (fun v _ h => by exact h.1.2.2) (row_cells strC_len hx1 0 _ rfl)) rfl ?_
             refine ops_callB (rPlain_c _) rfl pf_nil (fun _ _ _ => by exact trivial) rfl fun r54 hr54 => ?_
             refine ops_val (yld_not rfl) rfl ?_
             refine ops_nil (fin_next rfl ?_)
             cases r54
             ·
              refine run_cond_t rfl (run_seq (run_region (ops_val (yld_assign rfl) rfl (ops_nil (fin_next rfl (run_ret ?_))))))
              exact ret1 Tryz.results42 () (get_int rfl (by symm; apply Ax.check_20 hsh; rw [hu]; unfold Ax.namedU; rw [show x.roles.all plainS = false from List.all_eq_false.2 ⟨x1, hmx1, by simp [*]⟩]; simp)) pf_nil (fun _ _ _ => trivial)
             ·
              refine run_cond_f rfl (run_skip (fin_next rfl (run_region (ops_val (yld_move rfl) rfl (ops_val (yld_arith rfl rfl rfl (wrap64 (by omega) (by omega))) rfl ?_)))))
              refine ops_val (yld_assign rfl) rfl (ops_nil (fin_inv rfl ?_))
              exact ok_again ⟨i + 1, hlx1, by rw [List.take_add_one, hx1]; simp only [Option.toList_some, List.all_append, hk.2]; simp [*]⟩ (by simp; omega) ⟨rfl, rfl, rfl, rfl, rfl, rfl, trivial⟩ (.refl _) (fun _ _ h => h)
           ·
            refine run_cond_t rfl (run_seq (run_region (ops_val (yld_assign rfl) rfl (ops_nil (fin_next rfl (run_ret ?_))))))
            exact ret1 Tryz.results42 () (get_int rfl (by symm; apply Ax.check_20 hsh; rw [hu]; unfold Ax.namedU; simp [*])) pf_nil (fun _ _ _ => trivial)
         ·
          refine run_cond_t rfl (run_seq (run_region (ops_val (yld_assign rfl) rfl (ops_nil (fin_next rfl (run_ret ?_))))))
          exact ret1 Tryz.results42 () (get_int rfl (by symm; apply Ax.check_22; rw [Ax.shaped_ref hu, hr21]; rfl)) pf_nil (fun _ _ _ => trivial)

end Go.Proofs.YtoafjmalfclpoaaGreatDoor

/-
  Rules for signs, remainders and conversions; the reference's numerals and texts.
-/
namespace Go.Sx
open Go
section
variable {P : Program} {N : Nat} {fr : Fr} {H : Hp} {Γ : List Fct} {ty : TypeId}
theorem yld_neg {t : TypeId} {x : Operand} {m : Int} (hx : Fr.ev fr x = some (.int .i64 m)) (hw : IntKind.wrap .i64 (-m) = -m) : Yld P N fr H Γ (.unOp .neg t x) ty (.int .i64 (-m)) :=
  fun a v h1 _ _ _ _ _ => by simp [execOp, h1.ev hx, Op.unary, Op.intArith, hw]
theorem yld_rem {t t' : TypeId} {x y : Operand} {m n : Int} (hx : Fr.ev fr x = some (.int .i64 m)) (hy : Fr.ev fr y = some (.int .i64 n)) (hn : n ≠ 0) (hw : IntKind.wrap .i64 (m.tmod n) = m.tmod n) :
    Yld P N fr H Γ (.binOp .rem t x y t') ty (.int .i64 (m.tmod n)) :=
  fun a v h1 _ _ _ _ _ => by simp [execOp, h1.ev hx, h1.ev hy, eqGuard, binOp, Op.intDiv, hn, hw]
theorem yld_cvI {t t' : TypeId} {x : Operand} {k k' : IntKind} {m r : Int} {u : TypeDesc} (hs : P.underlying t = some u) (hd : P.underlying t' = some (.int k')) (hx : Fr.ev fr x = some (.int k m)) (hw : IntKind.wrap k' m = r) : Yld P N fr H Γ (.convert t t' x) ty (.int k' r) :=
  fun a v h1 _ _ _ _ _ => by subst hw; simp [execOp, h1.ev hx, convert, run_underlying hs, run_underlying hd, Conv.intToInt]
theorem yld_cvS {t t' e : TypeId} {x : Operand} {b : Nat} {l : List UInt8} {c : Nat} {T : TypeId} {fz : Nat × Nat} (i : Nat) (hs : P.underlying t = some (.slice e)) (he : P.underlying e = some (.int .u8)) (hd : P.underlying t' = some .string)
    (hx : Fr.ev fr x = some (.slice (some ⟨b, 0, none⟩) l.length c)) (hi : H[i]? = some (b, .cells (l.map fun z => Value.int .u8 (z.toNat : Int)).toArray T fz)) : Yld P N fr H Γ (.convert t t' x) ty (str l) :=
  fun a v h1 h2 _ _ _ _ => by
    have h := run_convert_bytes_back (P := P) v.w t t' e ⟨b, 0, none⟩ c l hs he hd (fun j hj => by
      rw [addr_add, Nat.zero_add, own_cell h2 hi]
      simp [List.getElem?_eq_getElem hj])
    simp [execOp, h1.ev hx, h, str]
end
end Go.Sx
namespace Go.Vs
open Go Go.Sx
theorem td_pos {n : Int} (h : ¬ n < 0) : n.tdiv 10 = n / 10 ∧ n.tmod 10 = n % 10 := ⟨Int.tdiv_eq_ediv_of_nonneg (by omega), Int.tmod_eq_emod_of_nonneg (by omega)⟩
theorem td_neg {n : Int} (h : n < 0) : n.tdiv 10 = -((-n) / 10) ∧ n.tmod 10 = -((-n) % 10) := by
  have h1 := td_pos (n := -n) (by omega)
  rw [← h1.1, ← h1.2, Int.neg_tdiv, Int.neg_tmod, Int.neg_neg, Int.neg_neg]
  exact ⟨rfl, rfl⟩
theorem dec_small {n : Int} (h0 : 0 ≤ n) (h1 : n < 10) : Lib.itoa n = [UInt8.ofNat (48 + n.toNat)] := by
  unfold Lib.itoa
  rw [if_neg (by omega), Lib.decDigits_one (by omega)]
theorem dec_pos {n : Int} (h : 10 ≤ n) : Lib.itoa (n.tdiv 10) ++ Lib.itoa (n.tmod 10) = Lib.itoa n := by
  obtain ⟨u, rfl⟩ : ∃ u : Nat, n = (u : Int) := ⟨n.toNat, by omega⟩
  have e1 : ((u : Int).tdiv 10) = ((u / 10 : Nat) : Int) := rfl
  have e2 : ((u : Int).tmod 10) = ((u % 10 : Nat) : Int) := rfl
  rw [e1, e2, Lib.itoa_nonneg, Lib.itoa_nonneg, Lib.itoa_nonneg, Lib.decDigits_one (i := u % 10) (by omega)]
  conv => rhs; rw [Lib.decDigits]
  rw [dif_neg (by omega)]
theorem dec_neg {n : Int} (h : n ≤ -10) : ([45] ++ Lib.itoa (-(n.tdiv 10))) ++ Lib.itoa (-(n.tmod 10)) = Lib.itoa n := by
  obtain ⟨u, rfl⟩ : ∃ u : Nat, n = -(u : Int) := ⟨n.natAbs, by omega⟩
  rw [Int.neg_tdiv, Int.neg_tmod, Int.neg_neg, Int.neg_neg, List.append_assoc, dec_pos (by omega), Lib.itoa_nonneg, Lib.itoa_neg u (by omega)]
  rfl
theorem dec_neg1 {n : Int} (h : n < 0) : [45] ++ Lib.itoa (-n) = Lib.itoa n := by
  obtain ⟨u, rfl⟩ : ∃ u : Nat, n = -(u : Int) := ⟨n.natAbs, by omega⟩
  rw [Int.neg_neg, Lib.itoa_nonneg, Lib.itoa_neg u (by omega)]
  rfl
theorem dec_len {n : Int} (h0 : -9223372036854775808 ≤ n) (h1 : n ≤ 9223372036854775807) : (Lib.itoa n).length ≤ 21 := Lib.itoa_length_le n h0 h1
theorem u8_wrap {n : Int} (h0 : 0 ≤ n) (h1 : n < 10) : IntKind.wrap .u8 (48 + n) = ((UInt8.ofNat (48 + n.toNat)).toNat : Int) := by
  obtain ⟨u, rfl⟩ : ∃ u : Nat, n = (u : Int) := ⟨n.toNat, by omega⟩
  have : u < 10 := by omega
  have hu : u = 0 ∨ u = 1 ∨ u = 2 ∨ u = 3 ∨ u = 4 ∨ u = 5 ∨ u = 6 ∨ u = 7 ∨ u = 8 ∨ u = 9 := by omega
  rcases hu with rfl | rfl | rfl | rfl | rfl | rfl | rfl | rfl | rfl | rfl <;> rfl
namespace Con
/-- the text, also of none -/
def textR (c : Con) : Str := if c.kind = 0 then [] else c.text
def has (c : Con) : Prop := c.fine ∨ c.kind = 0 ∧ c.parts = []
theorem fine_k {c : Con} (h : c.fine) : 1 ≤ c.kind ∧ c.kind ≤ 7 := ⟨(fields h).k1, (fields h).k7⟩
theorem textR_fine {c : Con} (h : c.fine) : c.textR = c.text := by unfold textR; rw [if_neg (by have := fine_k h; omega)]
theorem join_bound {sep : Str} {B : Nat} : ∀ {xs : List Str}, (∀ x ∈ xs, x.length ≤ B) → (Lib.join xs sep).length ≤ xs.length * (B + sep.length)
  | [], _ => by simp [Lib.join_nil]
  | x :: xs, h => by
    have h1 := join_len sep (x :: xs)
    have key : ∀ ys : List Str, (∀ y ∈ ys, y.length ≤ B) → (ys.map fun y => y.length + sep.length).sum ≤ ys.length * (B + sep.length) := by
      intro ys
      induction ys with
      | nil => intro _; simp
      | cons y ys ih =>
        intro hy
        have a := hy y (by simp)
        have b := ih fun z hz => hy z (by simp [hz])
        simp only [List.map_cons, List.sum_cons, List.length_cons, Nat.add_mul, Nat.one_mul]
        simp only [Nat.mul_add] at b ⊢
        omega
    have := key (x :: xs) h
    omega
theorem join_snoc (sep : Str) : ∀ (xs : List Str) (y : Str), xs ≠ [] → Lib.join (xs ++ [y]) sep = Lib.join xs sep ++ sep ++ y
  | [x], y, _ => by simp [Lib.join, List.intercalate]
  | x :: z :: r, y, _ => by
    have ih := join_snoc sep (z :: r) y (by simp)
    have e : ∀ w : List Str, Lib.join (x :: z :: w) sep = x ++ sep ++ Lib.join (z :: w) sep := fun w => by simp [Lib.join, List.intercalate]
    rw [List.cons_append, List.cons_append, e, e, ← List.cons_append, ih]
    simp
theorem oper_len {c p : Con} (hok : c.ok) (hf : c.fine) (hz : c.sz ≤ 1000) (hp : p ∈ c.parts) : p.operand.length ≤ 100010 := by
  have h1 := text_len _ p (Nat.le_refl _) (ok_part hok hp) (fine_part hf hp)
  have h2 := sz_part hp
  unfold operand
  split <;> simp <;> omega
end Con
end Go.Vs

/-
  My own contracts.
-/
namespace Go.Proofs.YtoafjmalfclpoaaGreatDoor
open Go Go.Sx Go.Proofs
set_option linter.unusedVariables false
attribute [local irreducible] Code.wp wpList wpAnyH

open Go.Vs
theorem rDecimal_c : ∀ (m : Nat) (n : Int), 2 * n.natAbs + (if n < 0 then 1 else 0) ≤ m → -1099511627776 ≤ n → n ≤ 1099511627776 → Fn0 Tryz.prog 139 #[.int .i64 n] (str (Lib.itoa n)) := by
 intro m
 induction m using Nat.strongRecOn with
 | ind m ih0 =>
  intro n hm hlo hhi
  have ih : ∀ (k : Int), 2 * k.natAbs + (if k < 0 then 1 else 0) < m → -1099511627776 ≤ k → k ≤ 1099511627776 → Fn0 Tryz.prog 139 #[.int .i64 k] (str (Lib.itoa k)) := fun k hk => ih0 _ hk k (Nat.le_refl _)
  refine tri_of_body Tryz.func139 rfl rfl Tryz.ntmps139 rfl fun v0 => ?_
  refine run_seq (run_region (ops_val (yld_assign rfl) rfl (ops_nil (fin_next rfl (run_seq (run_seq (run_region ?_)))))))
  refine ops_val (yld_move rfl) rfl (ops_valB (yld_lss rfl rfl) rfl fun r1 hr1 => ?_)
  refine ops_nil (fin_next rfl ?_)
  cases r1
  ·
   replace hr1 := of_decide_eq_false hr1
   have htd := td_pos (n := n) (by omega)
   refine run_cond_f rfl (run_skip (fin_next rfl (run_seq (run_seq (run_region (ops_val (yld_move rfl) rfl (ops_valB (yld_geq rfl rfl) rfl fun r2 hr2 => ?_)))))))
   refine ops_nil (fin_next rfl ?_)
   cases r2
   ·
    replace hr2 := of_decide_eq_false hr2
    refine run_cond_f rfl (run_skip (fin_next rfl (run_seq (run_region (ops_val (yld_move rfl) rfl (ops_val (yld_arith rfl rfl rfl (wrap64 (by omega) (by omega))) rfl ?_))))))
    refine ops_val (yld_cvI Tryz.underlying3 Tryz.underlying5 rfl (u8_wrap (by omega) (by omega))) rfl ?_
    refine ops_slit Tryz.runUnderlying167 Tryz.sizeOf5 Tryz.zeroValue5 rfl rfl rfl rfl rfl rfl fun b1 => ?_
    refine ops_val (yld_cvS (l := [UInt8.ofNat (48 + n.toNat)]) 0 Tryz.underlying167 Tryz.underlying5 Tryz.underlying9 rfl rfl) rfl ?_
    refine ops_val (yld_assign rfl) rfl (ops_nil (fin_next rfl (run_ret ?_)))
    exact ret1 Tryz.results139 () (get_str rfl (dec_small (by omega) (by omega)).symm) pf_nil (fun _ _ _ => trivial)
   ·
    replace hr2 := of_decide_eq_true hr2
    refine run_cond_t rfl (run_seq (run_region (ops_val (yld_move rfl) rfl (ops_val (yld_quo rfl rfl (by decide) (wrap64 (by omega) (by omega))) rfl ?_))))
    refine ops_call (ih (Int.tdiv n 10) (by split <;> split at hm <;> omega) (by omega) (by omega)) rfl pf_nil (fun _ _ _ => by exact trivial) rfl fun _ => ?_
    have hl1 := dec_len (n := (Int.tdiv n 10)) (by omega) (by omega)
    refine ops_val (yld_move rfl) rfl (ops_val (yld_rem rfl rfl (by decide) (wrap64 (by omega) (by omega))) rfl ?_)
    refine ops_call (ih (Int.tmod n 10) (by split <;> split at hm <;> omega) (by omega) (by omega)) rfl pf_nil (fun _ _ _ => by exact trivial) rfl fun _ => ?_
    have hl2 := dec_len (n := (Int.tmod n 10)) (by omega) (by omega)
    refine ops_val (yld_cat rfl rfl (by first | omega | (simp only [List.length_append, List.length_cons, List.length_nil]; omega))) rfl ?_
    refine ops_val (yld_assign rfl) rfl (ops_nil (fin_next rfl (run_ret ?_)))
    exact ret1 Tryz.results139 () (get_str rfl (dec_pos (by omega))) pf_nil (fun _ _ _ => trivial)
  ·
   replace hr1 := of_decide_eq_true hr1
   have htd := td_neg (n := n) (by omega)
   refine run_cond_t rfl (run_seq (run_seq (run_region (ops_val (yld_move rfl) rfl (ops_valB (yld_leq rfl rfl) rfl fun r3 hr3 => ?_)))))
   refine ops_nil (fin_next rfl ?_)
   cases r3
   ·
    replace hr3 := of_decide_eq_false hr3
    refine run_cond_f rfl (run_skip (fin_next rfl (run_seq (run_region (ops_val (yld_move rfl) rfl (ops_val (yld_neg rfl (wrap64 (by omega) (by omega))) rfl ?_))))))
    refine ops_call (ih (-n) (by split <;> split at hm <;> omega) (by omega) (by omega)) rfl pf_nil (fun _ _ _ => by exact trivial) rfl fun _ => ?_
    have hl3 := dec_len (n := (-n)) (by omega) (by omega)
    refine ops_val (yld_cat rfl rfl (by first | omega | (simp only [List.length_append, List.length_cons, List.length_nil]; omega))) rfl ?_
    refine ops_val (yld_assign rfl) rfl (ops_nil (fin_next rfl (run_ret ?_)))
    exact ret1 Tryz.results139 () (get_str rfl (dec_neg1 (by omega))) pf_nil (fun _ _ _ => trivial)
   ·
    replace hr3 := of_decide_eq_true hr3
    refine run_cond_t rfl (run_seq (run_region (ops_val (yld_move rfl) rfl (ops_val (yld_quo rfl rfl (by decide) (wrap64 (by omega) (by omega))) rfl ?_))))
    refine ops_val (yld_neg rfl (wrap64 (by omega) (by omega))) rfl ?_
    refine ops_call (ih (-(Int.tdiv n 10)) (by split <;> split at hm <;> omega) (by omega) (by omega)) rfl pf_nil (fun _ _ _ => by exact trivial) rfl fun _ => ?_
    have hl4 := dec_len (n := (-(Int.tdiv n 10))) (by omega) (by omega)
    refine ops_val (yld_cat rfl rfl (by first | omega | (simp only [List.length_append, List.length_cons, List.length_nil]; omega))) rfl ?_
    refine ops_val (yld_move rfl) rfl (ops_val (yld_rem rfl rfl (by decide) (wrap64 (by omega) (by omega))) rfl ?_)
    refine ops_val (yld_neg rfl (wrap64 (by omega) (by omega))) rfl ?_
    refine ops_call (ih (-(Int.tmod n 10)) (by split <;> split at hm <;> omega) (by omega) (by omega)) rfl pf_nil (fun _ _ _ => by exact trivial) rfl fun _ => ?_
    have hl5 := dec_len (n := (-(Int.tmod n 10))) (by omega) (by omega)
    refine ops_val (yld_cat rfl rfl (by first | omega | (simp only [List.length_append, List.length_cons, List.length_nil]; omega))) rfl ?_
    refine ops_val (yld_assign rfl) rfl (ops_nil (fin_next rfl (run_ret ?_)))
    exact ret1 Tryz.results139 () (get_str rfl (dec_neg (by omega))) pf_nil (fun _ _ _ => trivial)

theorem Con.range_of {c : Con} (h : c.fine) (hk : c.kind = 7) : -1099511627776 ≤ c.lo ∧ c.lo ≤ c.hi ∧ c.hi ≤ 1099511627776 := by
  have h0 := ((Con.fine_iff c).1 h).1
  rw [Con.fieldErr_ref] at h0
  split at h0
  · cases h0
  · rename_i hs
    simp only [Con.shapeS, hk, Bool.not_eq_false] at hs
    simp at hs
    omega

theorem rText_s (m : Nat) (ihO : (∀ (c : Con), c.sz ≤ m → c.ok → c.fine → c.sz ≤ 1000 → Tri Tryz.prog 140 #[c.val] [] [c.memF] (fun _ : Unit => str c.operand) (fun _ => []) (fun _ => []))) (c : Con) (hm : c.sz ≤ m + 1) (hok : c.ok) (hh : c.has) (hz : c.sz ≤ 1000) : Tri Tryz.prog 93 #[Con.val c] [] [Con.memF c] (fun _ : Unit => str c.textR) (fun _ => []) (fun _ => []) := by
  refine tri_of_body Tryz.func93 rfl rfl Tryz.ntmps93 rfl fun v0 => ?_
  have hpl := Con.ok_len hok
  refine run_seq (run_region (ops_box rfl rfl fun b1 => ?_))
  refine ops_val (yld_assign rfl) rfl (ops_nil (fin_next rfl (run_seq (run_seq (run_region (ops_val (yld_field Tryz.runUnderlying38 rfl rfl rfl Tryz.sizeOf3) rfl ?_))))))
  refine ops_val (yld_load 0 Tryz.isAgg3 rfl rfl rfl) rfl ?_
  refine ops_nil (fin_next rfl (run_block (run_seq (run_region (ops_valB (yld_eql rfl rfl) rfl fun r1 hr1 => ?_)))))
  refine ops_val (yld_assign rfl) rfl (ops_nil (fin_next rfl ?_))
  cases r1
  · skip
    replace hr1 := ne_of_beq_false hr1
    refine run_cond_f rfl (run_seq (run_region (ops_valB (yld_eql rfl rfl) rfl fun r2 hr2 => ?_)))
    refine ops_val (yld_assign rfl) rfl (ops_nil (fin_next rfl ?_))
    cases r2
    · skip
      replace hr2 := ne_of_beq_false hr2
      refine run_cond_f rfl (run_seq (run_region (ops_valB (yld_eql rfl rfl) rfl fun r3 hr3 => ?_)))
      refine ops_val (yld_assign rfl) rfl (ops_nil (fin_next rfl ?_))
      cases r3
      · skip
        replace hr3 := ne_of_beq_false hr3
        refine run_cond_f rfl (run_seq (run_region (ops_valB (yld_eql rfl rfl) rfl fun r4 hr4 => ?_)))
        refine ops_val (yld_assign rfl) rfl (ops_nil (fin_next rfl ?_))
        cases r4
        · skip
          replace hr4 := ne_of_beq_false hr4
          refine run_cond_f rfl (run_seq (run_region (ops_valB (yld_eql rfl rfl) rfl fun r5 hr5 => ?_)))
          refine ops_val (yld_assign rfl) rfl (ops_nil (fin_next rfl ?_))
          cases r5
          · skip
            replace hr5 := ne_of_beq_false hr5
            refine run_cond_f rfl (run_seq (run_region (ops_valB (yld_eql rfl rfl) rfl fun r6 hr6 => ?_)))
            refine ops_val (yld_assign rfl) rfl (ops_nil (fin_next rfl ?_))
            cases r6
            · skip
              replace hr6 := ne_of_beq_false hr6
              refine run_cond_f rfl (run_skip (fin_next rfl (run_seq (run_region (ops_val (yld_assign rfl) rfl (ops_nil (fin_next rfl ?_)))))))
              refine run_seq (run_seq (run_region (ops_val (yld_assign rfl) rfl (ops_nil (fin_next rfl (run_block ?_))))))
              have hk5 : (c.kind = 5 ∧ c.fine) ∨ (c.kind = 0 ∧ c.parts = []) := by rcases hh with h | h; exact .inl ⟨by have := Con.fine_k h; omega, h⟩; exact .inr h
              have hbd : ∀ i, i ≤ c.parts.length → (Lib.join ((c.parts.take i).map Con.operand) [32, 97, 110, 100, 32]).length ≤ 8 * 100015 := by
                intro i hi
                rcases hk5 with ⟨h5, hf⟩ | ⟨_, h0⟩
                · have h8 := (Con.fields hf).mo
                  rw [h5] at h8
                  simp [nd, needL] at h8
                  have := Con.join_bound (sep := [32, 97, 110, 100, 32]) (B := 100010) (xs := (c.parts.take i).map Con.operand) (fun x hx => by obtain ⟨p, hp, rfl⟩ := List.mem_map.1 hx; exact Con.oper_len hok hf hz (List.mem_of_mem_take hp))
                  simp only [List.length_map, List.length_take, List.length_cons, List.length_nil] at this
                  have h9 : min i c.parts.length ≤ 8 := by omega
                  have h10 := Nat.mul_le_mul_right (100010 + (0 + 1 + 1 + 1 + 1 + 1)) h9
                  exact Nat.le_trans this (Nat.le_trans h10 (by decide))
                · rw [h0]; simp [Lib.join_nil]
              refine ok_fr [(1, .pointer (some ⟨b1, 0, none⟩)), (3, str []), (4, .int .i64 ((0 : Nat) : Int))] ⟨rfl, rfl, rfl, trivial⟩ ?_
              refine run_loop (ι := {z : Nat // z ≤ c.parts.length}) (fun z => [(1, .pointer (some ⟨b1, 0, none⟩)), (3, str (Lib.join ((c.parts.take z.1).map Con.operand) [32, 97, 110, 100, 32])), (4, .int .i64 (z.1 : Int))]) (fun _ => _) (fun _ => _) (fun z => c.parts.length - z.1) ⟨0, by simp⟩ ?_
              rintro ⟨i, hi⟩
              dsimp only
              have hbi := hbd i hi
              refine ok_fr [(1, .pointer (some ⟨b1, 0, none⟩)), (3, str (Lib.join ((c.parts.take i).map Con.operand) [32, 97, 110, 100, 32])), (4, .int .i64 (i : Int))] ⟨rfl, rfl, rfl, trivial⟩ ?_
              refine run_seq (run_seq (run_region (ops_val (yld_move rfl) rfl (ops_val (yld_field Tryz.runUnderlying38 rfl rfl rfl Tryz.sizeOf36) rfl ?_))))
              refine ops_val (yld_load 0 Tryz.isAgg36 rfl rfl rfl) rfl ?_
              refine ops_val (yld_lenS Tryz.runUnderlying36 rfl) rfl ?_
              refine ops_valB (yld_lss rfl rfl) rfl fun r7 hr7 => ?_
              refine ops_nil (fin_next rfl ?_)
              cases r7
              · skip
                replace hr7 := of_decide_eq_false hr7
                refine run_cond_f rfl (run_exit rfl (fin_next rfl (run_seq (run_region (ops_val (yld_move rfl) rfl (ops_val (yld_assign rfl) rfl (ops_nil ?_)))))))
                refine fin_next rfl (run_ret ?_)
                exact ret1 Tryz.results93 () (get_str rfl (by unfold Con.textR; rcases hk5 with ⟨h5, _⟩ | ⟨h0, hp⟩; rw [if_neg (by omega), Con.text_eq, List.take_of_length_le (by omega)]; simp [h5]; rw [if_pos h0, hp]; simp [Lib.join_nil])) pf_nil (fun _ _ _ => trivial)
              · skip
                replace hr7 := of_decide_eq_true hr7
                have hfi : c.fine := hh.elim id (fun q => by have h0 : c.parts.length = 0 := (by rw [q.2]; rfl); omega)
                have hlx1 : i < List.length (Con.parts c) := by omega
                obtain ⟨x1, hx1⟩ : ∃ e0, (Con.parts c)[i]? = some e0 := ⟨_, List.getElem?_eq_getElem hlx1⟩
                have hmx1 : x1 ∈ (Con.parts c) := List.mem_of_getElem? hx1
                refine run_cond_t rfl (run_skip (fin_next rfl (run_seq (run_block (run_seq (run_seq (run_region ?_)))))))
                refine ops_val (yld_move rfl) rfl (ops_valB (yld_gtr rfl rfl) rfl fun r8 hr8 => ?_)
                refine ops_nil (fin_next rfl ?_)
                cases r8
                · skip
                  replace hr8 := of_decide_eq_false hr8
                  refine run_cond_f rfl (run_skip (fin_next rfl (run_region (ops_val (yld_move rfl) rfl (ops_val (yld_field Tryz.runUnderlying38 rfl rfl rfl Tryz.sizeOf36) rfl ?_)))))
                  refine ops_val (yld_load 0 Tryz.isAgg36 rfl rfl rfl) rfl ?_
                  refine ops_val (yld_move rfl) rfl (ops_val (yld_indexR Tryz.runUnderlying36 Tryz.sizeOf38 rfl rfl (fun v _ h => row_adr (n := 5) Con.cells_len (by decide) (by exact ((Con.mem_iff c v).1 h.1).1) hx1) (by omega) (by first | omega | (simp; done))) rfl ?_)
                  refine ops_val (yld_loadRS (ad := (Con.ad c)) (us := Con.cells x1) Tryz.isAgg38 Tryz.sizeOf38 rfl (fun v _ h => by exact ((Con.mem_iff c v).1 h.1).1) (Con.cells_len _) (row_cells Con.cells_len hx1)) rfl ?_
                  refine ops_call (ihO x1 (by have := Con.sz_part hmx1; omega) (Con.ok_part hok hmx1) (Con.fine_part hfi hmx1) (by have := Con.sz_part hmx1; omega)) rfl pf_nil (fun v _ h => by exact ⟨(Con.mem_part (c := c) h.1 hmx1), trivial⟩) rfl fun _ => ?_
                  have hol := Con.oper_len hok hfi hz hmx1
                  refine ops_val (yld_cat rfl rfl (by first | omega | (simp only [List.length_append, List.length_cons, List.length_nil]; omega))) rfl ?_
                  refine ops_val (yld_assign rfl) rfl (ops_nil (fin_next rfl (run_region (ops_val (yld_move rfl) rfl (ops_val (yld_arith rfl rfl rfl (wrap64 (by omega) (by omega))) rfl ?_)))))
                  refine ops_val (yld_assign rfl) rfl (ops_nil (fin_inv rfl ?_))
                  have hst : ((Lib.join ((c.parts.take i).map Con.operand) [32, 97, 110, 100, 32]) ++ (Con.operand x1)) = (Lib.join ((c.parts.take (i + 1)).map Con.operand) [32, 97, 110, 100, 32]) := by have h0 : i = 0 := (by omega); subst h0; rw [Con.take_snoc hx1]; simp [Lib.join_nil, Lib.join_one]
                  exact ok_again ⟨i + 1, hlx1⟩ (by dsimp only; omega) ⟨rfl, (get_str rfl hst), rfl, trivial⟩ (.refl _) (fun _ _ h => h)
                · skip
                  replace hr8 := of_decide_eq_true hr8
                  refine run_cond_t rfl (run_region (ops_val (yld_move rfl) rfl (ops_val (yld_cat rfl rfl (by first | omega | (simp only [List.length_append, List.length_cons, List.length_nil]; omega))) rfl ?_)))
                  refine ops_val (yld_assign rfl) rfl (ops_nil (fin_next rfl (run_region (ops_val (yld_move rfl) rfl (ops_val (yld_field Tryz.runUnderlying38 rfl rfl rfl Tryz.sizeOf36) rfl ?_)))))
                  refine ops_val (yld_load 0 Tryz.isAgg36 rfl rfl rfl) rfl ?_
                  refine ops_val (yld_move rfl) rfl (ops_val (yld_indexR Tryz.runUnderlying36 Tryz.sizeOf38 rfl rfl (fun v _ h => row_adr (n := 5) Con.cells_len (by decide) (by exact ((Con.mem_iff c v).1 h.1).1) hx1) (by omega) (by first | omega | (simp; done))) rfl ?_)
                  refine ops_val (yld_loadRS (ad := (Con.ad c)) (us := Con.cells x1) Tryz.isAgg38 Tryz.sizeOf38 rfl (fun v _ h => by exact ((Con.mem_iff c v).1 h.1).1) (Con.cells_len _) (row_cells Con.cells_len hx1)) rfl ?_
                  refine ops_call (ihO x1 (by have := Con.sz_part hmx1; omega) (Con.ok_part hok hmx1) (Con.fine_part hfi hmx1) (by have := Con.sz_part hmx1; omega)) rfl pf_nil (fun v _ h => by exact ⟨(Con.mem_part (c := c) h.1 hmx1), trivial⟩) rfl fun _ => ?_
                  have hol := Con.oper_len hok hfi hz hmx1
                  refine ops_val (yld_cat rfl rfl (by first | omega | (simp only [List.length_append, List.length_cons, List.length_nil]; omega))) rfl ?_
                  refine ops_val (yld_assign rfl) rfl (ops_nil (fin_next rfl (run_region (ops_val (yld_move rfl) rfl (ops_val (yld_arith rfl rfl rfl (wrap64 (by omega) (by omega))) rfl ?_)))))
                  refine ops_val (yld_assign rfl) rfl (ops_nil (fin_inv rfl ?_))
                  have hst : (((Lib.join ((c.parts.take i).map Con.operand) [32, 97, 110, 100, 32]) ++ [32, 97, 110, 100, 32]) ++ (Con.operand x1)) = (Lib.join ((c.parts.take (i + 1)).map Con.operand) [32, 97, 110, 100, 32]) := by rw [Con.take_snoc hx1, List.map_append, List.map_cons, List.map_nil, Con.join_snoc _ _ _ (by intro q; have := congrArg List.length q; rw [List.length_map, List.length_take] at this; simp only [List.length_nil] at this; omega)]
                  exact ok_again ⟨i + 1, hlx1⟩ (by dsimp only; omega) ⟨rfl, (get_str rfl hst), rfl, trivial⟩ (.refl _) (fun _ _ h => h)
            · skip
              replace hr6 := eq_of_beq hr6
              have hfi : c.fine := hh.elim id (fun q => by omega)
              have hnm := (Con.fields hfi).nm
              have hl6 := (Con.fields hfi).le
              rw [show c.kind = 6 by omega] at hl6
              simp [nd, needL] at hl6
              have hlx0 : 0 < List.length (Con.parts c) := by omega
              obtain ⟨x0, hx0⟩ : ∃ e0, (Con.parts c)[0]? = some e0 := ⟨_, List.getElem?_eq_getElem hlx0⟩
              have hmx0 : x0 ∈ (Con.parts c) := List.mem_of_getElem? hx0
              have hhd : (c.parts.map Con.operand).headD [] = Con.operand x0 := by rw [headD_of (x := Con.operand x0) (by rw [List.getElem?_map, hx0]; rfl)]
              refine run_cond_t rfl (run_seq ?_)
              refine run_draw' (by kernel_rfl) ?_
              refine any_take 0 rfl (by kernel_rfl) (by kernel_rfl) (by kernel_rfl) (yld_field Tryz.runUnderlying38 rfl rfl rfl Tryz.sizeOf9) rfl (fun _ a b => ⟨a, b⟩) ?_
              refine any_take 1 rfl (by kernel_rfl) (by kernel_rfl) (by kernel_rfl) (yld_load 0 Tryz.isAgg9 rfl rfl rfl) rfl (fun _ a b => ⟨a, b⟩) ?_
              refine any_take 2 rfl (by kernel_rfl) (by kernel_rfl) (by kernel_rfl) (yld_cat rfl rfl (by first | omega | (simp only [List.length_append, List.length_cons, List.length_nil]; omega))) rfl (fun _ a b => ⟨a, b⟩) ?_
              refine any_take 3 rfl (by kernel_rfl) (by kernel_rfl) (by kernel_rfl) (yld_cat rfl rfl (by first | omega | (simp only [List.length_append, List.length_cons, List.length_nil]; omega))) rfl (fun _ a b => ⟨a, b⟩) ?_
              refine any_take 4 rfl (by kernel_rfl) (by kernel_rfl) (by kernel_rfl) (yld_field Tryz.runUnderlying38 rfl rfl rfl Tryz.sizeOf36) rfl (fun _ a b => ⟨a, b⟩) ?_
              refine any_take 5 rfl (by kernel_rfl) (by kernel_rfl) (by kernel_rfl) (yld_load 0 Tryz.isAgg36 rfl rfl rfl) rfl (fun _ a b => ⟨a, b⟩) ?_
              refine any_take 6 rfl (by kernel_rfl) (by kernel_rfl) (by kernel_rfl) (yld_indexR Tryz.runUnderlying36 Tryz.sizeOf38 rfl rfl (fun v _ h => row_adr (n := 5) Con.cells_len (by decide) (by exact ((Con.mem_iff c v).1 h.1).1) hx0) (by omega) (by first | omega | (simp; done))) rfl (fun _ a b => ⟨a, b⟩) ?_
              refine any_take 7 rfl (by kernel_rfl) (by kernel_rfl) (by kernel_rfl) (yld_loadRS (ad := (Con.ad c)) (us := Con.cells x0) Tryz.isAgg38 Tryz.sizeOf38 rfl (fun v _ h => by exact ((Con.mem_iff c v).1 h.1).1) (Con.cells_len _) (row_cells Con.cells_len hx0)) rfl (fun _ a b => ⟨a, b⟩) ?_
              refine any_one 8 rfl (by kernel_rfl) ?_
              refine ops_call (ihO x0 (by have := Con.sz_part hmx0; omega) (Con.ok_part hok hmx0) (Con.fine_part hfi hmx0) (by have := Con.sz_part hmx0; omega)) rfl pf_nil (fun v _ h => by exact ⟨(Con.mem_part (c := c) h.1 hmx0), trivial⟩) rfl fun _ => ?_
              have hol := Con.oper_len hok hfi hz hmx0
              refine ops_nil (fin_inv rfl (any_next (fun _ a b => ⟨a, b⟩) ?_))
              refine any_take 9 rfl (by kernel_rfl) (by kernel_rfl) (by kernel_rfl) (yld_cat rfl rfl (by first | omega | (simp only [List.length_append, List.length_cons, List.length_nil]; omega))) rfl (fun _ a b => ⟨a, b⟩) ?_
              refine any_take 10 rfl (by kernel_rfl) (by kernel_rfl) (by kernel_rfl) (yld_assign rfl) rfl (fun _ a b => ⟨a, b⟩) ?_
              refine any_done (by kernel_rfl) ?_
              refine fin_next rfl (run_ret ?_)
              exact ret1 Tryz.results93 () (get_str rfl (by unfold Con.textR; rw [if_neg (by omega), Con.text_eq, hhd]; simp [*, Lib.join, List.intercalate])) pf_nil (fun _ _ _ => trivial)
          · skip
            replace hr5 := eq_of_beq hr5
            have hfi : c.fine := hh.elim id (fun q => by omega)
            have hrg := Con.range_of hfi (by omega)
            have hnm := (Con.fields hfi).nm
            refine run_cond_t rfl (run_seq ?_)
            refine run_draw' (by kernel_rfl) ?_
            refine any_take 0 rfl (by kernel_rfl) (by kernel_rfl) (by kernel_rfl) (yld_field Tryz.runUnderlying38 rfl rfl rfl Tryz.sizeOf9) rfl (fun _ a b => ⟨a, b⟩) ?_
            refine any_take 1 rfl (by kernel_rfl) (by kernel_rfl) (by kernel_rfl) (yld_load 0 Tryz.isAgg9 rfl rfl rfl) rfl (fun _ a b => ⟨a, b⟩) ?_
            refine any_take 2 rfl (by kernel_rfl) (by kernel_rfl) (by kernel_rfl) (yld_cat rfl rfl (by first | omega | (simp only [List.length_append, List.length_cons, List.length_nil]; omega))) rfl (fun _ a b => ⟨a, b⟩) ?_
            refine any_take 3 rfl (by kernel_rfl) (by kernel_rfl) (by kernel_rfl) (yld_field Tryz.runUnderlying38 rfl rfl rfl Tryz.sizeOf3) rfl (fun _ a b => ⟨a, b⟩) ?_
            refine any_take 4 rfl (by kernel_rfl) (by kernel_rfl) (by kernel_rfl) (yld_load 0 Tryz.isAgg3 rfl rfl rfl) rfl (fun _ a b => ⟨a, b⟩) ?_
            refine any_take 8 rfl (by kernel_rfl) (by kernel_rfl) (by kernel_rfl) (yld_field Tryz.runUnderlying38 rfl rfl rfl Tryz.sizeOf3) rfl (fun _ a b => ⟨a, b⟩) ?_
            refine any_take 9 rfl (by kernel_rfl) (by kernel_rfl) (by kernel_rfl) (yld_load 0 Tryz.isAgg3 rfl rfl rfl) rfl (fun _ a b => ⟨a, b⟩) ?_
            refine any_one 5 rfl (by kernel_rfl) ?_
            refine ops_call (rDecimal_c _ (Con.lo c) (Nat.le_refl _) (by omega) (by omega)) rfl pf_nil (fun _ _ _ => by exact trivial) rfl fun _ => ?_
            have hdl := dec_len (n := (Con.lo c)) (by omega) (by omega)
            refine ops_nil (fin_inv rfl (any_next (fun _ a b => ⟨a, b⟩) ?_))
            refine any_take 6 rfl (by kernel_rfl) (by kernel_rfl) (by kernel_rfl) (yld_cat rfl rfl (by first | omega | (simp only [List.length_append, List.length_cons, List.length_nil]; omega))) rfl (fun _ a b => ⟨a, b⟩) ?_
            refine any_take 7 rfl (by kernel_rfl) (by kernel_rfl) (by kernel_rfl) (yld_cat rfl rfl (by first | omega | (simp only [List.length_append, List.length_cons, List.length_nil]; omega))) rfl (fun _ a b => ⟨a, b⟩) ?_
            refine any_one 10 rfl (by kernel_rfl) ?_
            refine ops_call (rDecimal_c _ (Con.hi c) (Nat.le_refl _) (by omega) (by omega)) rfl pf_nil (fun _ _ _ => by exact trivial) rfl fun _ => ?_
            have hdh := dec_len (n := (Con.hi c)) (by omega) (by omega)
            refine ops_nil (fin_inv rfl (any_next (fun _ a b => ⟨a, b⟩) ?_))
            refine any_take 11 rfl (by kernel_rfl) (by kernel_rfl) (by kernel_rfl) (yld_cat rfl rfl (by first | omega | (simp only [List.length_append, List.length_cons, List.length_nil]; omega))) rfl (fun _ a b => ⟨a, b⟩) ?_
            refine any_take 12 rfl (by kernel_rfl) (by kernel_rfl) (by kernel_rfl) (yld_assign rfl) rfl (fun _ a b => ⟨a, b⟩) ?_
            refine any_done (by kernel_rfl) ?_
            refine fin_next rfl (run_ret ?_)
            exact ret1 Tryz.results93 () (get_str rfl (by unfold Con.textR; rw [Con.text_eq]; simp [*, Lib.join, List.intercalate])) pf_nil (fun _ _ _ => trivial)
        · skip
          replace hr4 := eq_of_beq hr4
          have hfi : c.fine := hh.elim id (fun q => by omega)
          have hnm := (Con.fields hfi).nm
          refine run_cond_t rfl (run_seq (run_region (ops_val (yld_field Tryz.runUnderlying38 rfl rfl rfl Tryz.sizeOf9) rfl ?_)))
          refine ops_val (yld_load 0 Tryz.isAgg9 rfl rfl rfl) rfl ?_
          refine ops_val (yld_cat rfl rfl (by first | omega | (simp only [List.length_append, List.length_cons, List.length_nil]; omega))) rfl ?_
          refine ops_val (yld_cat rfl rfl (by first | omega | (simp only [List.length_append, List.length_cons, List.length_nil]; omega))) rfl ?_
          refine ops_val (yld_assign rfl) rfl (ops_nil (fin_next rfl (run_ret ?_)))
          exact ret1 Tryz.results93 () (get_str rfl (by unfold Con.textR; rw [Con.text_eq]; simp [*, Lib.join, List.intercalate])) pf_nil (fun _ _ _ => trivial)
      · skip
        replace hr3 := eq_of_beq hr3
        refine run_cond_t rfl (run_seq (run_region (ops_val (yld_field Tryz.runUnderlying38 rfl rfl rfl Tryz.sizeOf9) rfl ?_)))
        refine ops_val (yld_load 0 Tryz.isAgg9 rfl rfl rfl) rfl ?_
        refine ops_val (yld_assign rfl) rfl (ops_nil (fin_next rfl (run_ret ?_)))
        exact ret1 Tryz.results93 () (get_str rfl (by unfold Con.textR; rw [Con.text_eq]; simp [*, Lib.join, List.intercalate])) pf_nil (fun _ _ _ => trivial)
    · skip
      replace hr2 := eq_of_beq hr2
      refine run_cond_t rfl (run_seq (run_region (ops_val (yld_assign rfl) rfl (ops_nil (fin_next rfl (run_ret ?_))))))
      exact ret1 Tryz.results93 () (get_str rfl (by unfold Con.textR; rw [Con.text_eq]; simp [*, Lib.join, List.intercalate])) pf_nil (fun _ _ _ => trivial)
  · skip
    replace hr1 := eq_of_beq hr1
    refine run_cond_t rfl (run_seq (run_region (ops_val (yld_assign rfl) rfl (ops_nil (fin_next rfl (run_ret ?_))))))
    exact ret1 Tryz.results93 () (get_str rfl (by unfold Con.textR; rw [Con.text_eq]; simp [*, Lib.join, List.intercalate])) pf_nil (fun _ _ _ => trivial)

theorem rOperand_s (m : Nat) (ihT : (∀ (c : Con), c.sz ≤ m → c.ok → c.has → c.sz ≤ 1000 → Tri Tryz.prog 93 #[c.val] [] [c.memF] (fun _ : Unit => str c.textR) (fun _ => []) (fun _ => []))) (c : Con) (hm : c.sz ≤ m) (hok : c.ok) (hf : c.fine) (hz : c.sz ≤ 1000) : Tri Tryz.prog 140 #[Con.val c] [] [Con.memF c] (fun _ : Unit => str c.operand) (fun _ => []) (fun _ => []) := by
  refine tri_of_body Tryz.func140 rfl rfl Tryz.ntmps140 rfl fun v0 => ?_
  have htl := Con.text_len _ c (Nat.le_refl _) hok hf
  have htr := Con.textR_fine hf
  refine run_seq (run_region (ops_box rfl rfl fun b1 => ?_))
  refine ops_val (yld_assign rfl) rfl (ops_nil (fin_next rfl (run_seq (run_seq (run_region (ops_val (yld_field Tryz.runUnderlying38 rfl rfl rfl Tryz.sizeOf3) rfl ?_))))))
  refine ops_val (yld_load 0 Tryz.isAgg3 rfl rfl rfl) rfl ?_
  refine ops_valB (yld_eql rfl rfl) rfl fun r1 hr1 => ?_
  refine ops_nil (fin_next rfl ?_)
  cases r1
  · skip
    replace hr1 := ne_of_beq_false hr1
    refine run_cond_f rfl (run_skip (fin_next rfl (run_seq (run_region (ops_val (yld_loadS 0 Tryz.isAgg38 Tryz.sizeOf38 rfl rfl rfl) rfl ?_)))))
    refine ops_call (ihT c hm hok (.inl hf) hz) rfl pf_nil (fun v _ h => by exact ⟨h.1, trivial⟩) rfl fun _ => ?_
    refine ops_val (yld_assign rfl) rfl (ops_nil (fin_next rfl (run_ret ?_)))
    exact ret1 Tryz.results140 () (get_str rfl (by rw [htr]; unfold Con.operand; simp [*])) pf_nil (fun _ _ _ => trivial)
  · skip
    replace hr1 := eq_of_beq hr1
    refine run_cond_t rfl (run_seq (run_region (ops_val (yld_loadS 0 Tryz.isAgg38 Tryz.sizeOf38 rfl rfl rfl) rfl ?_)))
    refine ops_call (ihT c hm hok (.inl hf) hz) rfl pf_nil (fun v _ h => by exact ⟨h.1, trivial⟩) rfl fun _ => ?_
    refine ops_val (yld_cat rfl rfl (by simp only [List.length_append, List.length_cons, List.length_nil]; rw [htr] at *; omega)) rfl ?_
    refine ops_val (yld_cat rfl rfl (by simp only [List.length_append, List.length_cons, List.length_nil]; rw [htr] at *; omega)) rfl ?_
    refine ops_val (yld_assign rfl) rfl (ops_nil (fin_next rfl (run_ret ?_)))
    exact ret1 Tryz.results140 () (get_str rfl (by rw [htr]; unfold Con.operand; simp [*])) pf_nil (fun _ _ _ => trivial)

theorem rText_both : ∀ m : Nat, (∀ (c : Con), c.sz ≤ m → c.ok → c.has → c.sz ≤ 1000 → Tri Tryz.prog 93 #[c.val] [] [c.memF] (fun _ : Unit => str c.textR) (fun _ => []) (fun _ => [])) ∧ (∀ (c : Con), c.sz ≤ m → c.ok → c.fine → c.sz ≤ 1000 → Tri Tryz.prog 140 #[c.val] [] [c.memF] (fun _ : Unit => str c.operand) (fun _ => []) (fun _ => []))
  | 0 => ⟨fun c h => by have := c.sz_pos; omega, fun c h => by have := c.sz_pos; omega⟩
  | m + 1 =>
    have ih := rText_both m
    have hT : ∀ (c : Con), c.sz ≤ m + 1 → c.ok → c.has → c.sz ≤ 1000 → Tri Tryz.prog 93 #[c.val] [] [c.memF] (fun _ : Unit => str c.textR) (fun _ => []) (fun _ => []) := fun c h h1 h2 h3 => rText_s m ih.2 c h h1 h2 h3
    ⟨hT, fun c h h1 h2 h3 => rOperand_s (m + 1) hT c h h1 h2 h3⟩
theorem rText_c (c : Con) (hok : c.ok) (hh : c.has) (hz : c.sz ≤ 1000) : Tri Tryz.prog 93 #[c.val] [] [c.memF] (fun _ : Unit => str c.textR) (fun _ => []) (fun _ => []) := (rText_both _).1 c (Nat.le_refl _) hok hh hz

end Go.Proofs.YtoafjmalfclpoaaGreatDoor

/-
  Rules to read a grown row of one's own; lists of lists of pieces; the reference's pieces as plain lists.
-/
namespace Go.Sx
open Go
section
variable {P : Program} {N : Nat} {fr : Fr} {H : Hp} {Γ : List Fct} {ty : TypeId} {e : TypeId} {sz n : Nat} {sv : Value} {xs : List Value} {Hr F : Hp}
theorem pf_un {H : Hp} : List.Perm ([] ++ H) H := .refl _
/-- the block of a slice -/
def svB : Value → Nat
  | .slice (some a) _ _ => a.block
  | _ => 0
theorem yld_lenRow {x : Operand} {t e' : TypeId} (hrow : SRow e sz sv n xs Hr) (hu : ∀ w, (underlying t).run P w = .ok (.slice e') w) (hx : Fr.ev fr x = some sv) : Yld P N fr H Γ (.call ⟨.builtin .len, #[x], #[t]⟩) ty (.int .i64 (n : Int)) := by
  rcases hrow.2 with ⟨rfl, rfl, _⟩ | ⟨g, cap, cur, rfl, _⟩
  · exact yld_lenS hu hx
  · exact yld_lenS hu hx
theorem yld_ixRow {x y : Operand} {t e' : TypeId} {k : IntKind} {i : Int} (hrow : SRow e sz sv n xs Hr) (hu : ∀ w, (underlying t).run P w = .ok (.slice e') w) (hs : ∀ w, (sizeOf e').run P w = .ok sz w) (hx : Fr.ev fr x = some sv) (hy : Fr.ev fr y = some (.int k i)) (h0 : 0 ≤ i) (hl : i < n) :
    Yld P N fr H Γ (.indexAddr t x y) ty (.pointer (some ⟨svB sv, i.toNat * sz, none⟩)) := by
  rcases hrow.2 with ⟨_, h2, _⟩ | ⟨g, cap, cur, rfl, _⟩
  · omega
  · have := yld_index (P := P) (N := N) (H := H) (Γ := Γ) (ty := ty) hu hs hx hy h0 hl
    rw [Nat.zero_add] at this
    exact this
theorem yld_ldRow {x : Operand} {t : TypeId} {k : Nat} {us : List Value} (hrow : SRow e sz sv n xs Hr) (hH : H.Perm (Hr ++ F)) (ha : ∀ w, (isAgg t).run P w = .ok true w) (hs : ∀ w, (sizeOf t).run P w = .ok sz w) (hx : Fr.ev fr x = some (.pointer (some ⟨svB sv, k, none⟩)))
    (hn : us.length = sz) (hp : 0 < sz) (hu : ∀ j y, us[j]? = some y → xs[k + j]? = some y) : Yld P N fr H Γ (.load t x) ty (.agg us.toArray) := by
  rcases hrow.2 with ⟨_, h2, _⟩ | ⟨g, cap, cur, rfl, rfl, h3, h4, h5, h6⟩
  · subst h2
    have h1 := hrow.1
    have : xs = [] := List.eq_nil_of_length_eq_zero (by simpa using h1)
    subst this
    have := hu 0 us[0] (List.getElem?_eq_getElem (by omega))
    simp at this
  · refine yld_loadX hx fun v h2 _ => run_loadVar_agg ha hs hn fun j y hj => ?_
    have hb := ((h2.perm hH).own _ (List.mem_append_left _ List.mem_cons_self)).1
    have hc := hu j y hj
    rw [← h6, List.getElem?_take] at hc
    split at hc
    · have hc' : cur[k + j]? = some y := by simpa using hc
      simp only [svB, World.cell?, hb, Option.isSome_none, Bool.false_eq_true, if_false]
      exact hc'
    · cases hc
end
end Go.Sx
namespace Go.Vs
open Go Go.Sx
/-- a list of pieces and where it lies -/
structure Pw where
  l : List Pc
  ad : Option Addr
  cap : Nat
def Pw.cells (x : Pw) : List Value := [.slice x.ad x.l.length x.cap]
theorem Pw.cells_len (x : Pw) : x.cells.length = 1 := rfl
def pwF (ls : List Pw) : Fct where
  p := fun v => ∀ x ∈ ls, RowAt v x.ad (x.l.flatMap Pc.cells)
  mono := fun v v' h hp x hx => (rowF x.ad _).mono v v' h (hp x hx)
theorem pwF_nil {v : Vw} : (pwF []).p v := fun _ h => by simp at h
theorem pwF_cons {v : Vw} {x : Pw} {ls : List Pw} (h : RowAt v x.ad (x.l.flatMap Pc.cells)) (hs : (pwF ls).p v) : (pwF (x :: ls)).p v := fun y hy => by
  rcases List.mem_cons.1 hy with rfl | hy
  · exact h
  · exact hs y hy
/-- pieces join a list one after another -/
def insA (frm : Int) (l ps : List Pc) : List Pc := ps.foldl (ins frm) l
theorem insA_append (frm : Int) (l ps qs : List Pc) : insA frm l (ps ++ qs) = insA frm (insA frm l ps) qs := by simp [insA, List.foldl_append]
theorem insA_cons (frm : Int) (l : List Pc) (p : Pc) (qs : List Pc) : insA frm l (p :: qs) = insA frm (ins frm l p) qs := rfl
theorem insA_nil (frm : Int) (l : List Pc) : insA frm l [] = l := rfl
theorem insA_one (frm : Int) (l : List Pc) (p : Pc) : insA frm l [p] = ins frm l p := rfl
theorem insA_len (frm : Int) : ∀ (ps l : List Pc), (insA frm l ps).length ≤ l.length + ps.length
  | [], l => by simp [insA_nil]
  | p :: ps, l => by
    have h1 := ins_len frm l p
    have h2 := insA_len frm ps (ins frm l p)
    rw [insA_cons]
    simp only [List.length_cons]
    omega
namespace Con
def firstS (c : Con) (j : Nat) : Str := if j = 1 then (c.parts.map atom).headD [] else (c.pre j).atom
def andL (c : Con) : List Con → Nat → List Pc
  | [], _ => []
  | p :: r, j => ⟨2, firstS c j, p.atom, firstS c (j + 1), [], [], [], 0, 0, 0⟩ :: andL c r (j + 1)
theorem andL_len (c : Con) : ∀ (r : List Con) (j : Nat), (andL c r j).length = r.length
  | [], _ => rfl
  | p :: r, j => by simp only [andL, List.length_cons, andL_len c r (j + 1)]
theorem andP_ins (frm : Int) (c : Con) : ∀ (r : List Con) (j : Nat) (l : List Pc), 1 ≤ j → andP frm c r j (firstS c j) l = insA frm l (andL c r j)
  | [], _, _, _ => rfl
  | p :: r, j, l, h => by
    have e : (c.pre (j + 1)).atom = firstS c (j + 1) := by unfold firstS; rw [if_neg (by omega)]
    simp only [andP, andL, insA_cons]
    rw [e, andP_ins frm c r (j + 1) _ (by omega)]
def rleft : Con → List Pc
  | c@(mk k nm lo hi _ _ ps) =>
    if k = 5 then rlefts ps ++ andL c (ps.drop 1) 1
    else if k = 6 then rlefts ps ++ [⟨4, (ps.map atom).headD [], [], c.atom, nm, [], [], 0, 0, 0⟩]
    else if k = 7 then [⟨9, [], [], c.atom, nm, [], [], lo, hi, 0⟩]
    else []
where rlefts : List Con → List Pc
  | [] => []
  | p :: ps => rleft p ++ rlefts ps
theorem rleft_eq (c : Con) : c.rleft =
    if c.kind = 5 then rleft.rlefts c.parts ++ andL c (c.parts.drop 1) 1
    else if c.kind = 6 then rleft.rlefts c.parts ++ [⟨4, (c.parts.map atom).headD [], [], c.atom, c.name, [], [], 0, 0, 0⟩]
    else if c.kind = 7 then [⟨9, [], [], c.atom, c.name, [], [], c.lo, c.hi, 0⟩]
    else [] := by cases c; rw [rleft]; rfl
theorem rlefts_append : ∀ (xs ys : List Con), rleft.rlefts (xs ++ ys) = rleft.rlefts xs ++ rleft.rlefts ys
  | [], _ => rfl
  | x :: xs, ys => by simp only [List.cons_append, rleft.rlefts, rlefts_append xs ys, List.append_assoc]
theorem rlefts_step {ps : List Con} {p : Con} {i : Nat} (hp : ps[i]? = some p) : rleft.rlefts (ps.take (i + 1)) = rleft.rlefts (ps.take i) ++ p.rleft := by
  rw [take_snoc hp, rlefts_append]; simp [rleft.rlefts]
def rright : Con → List Pc
  | c@(mk k nm lo hi _ _ ps) =>
    if k = 5 then rrights c.atom ps
    else if k = 6 then ⟨3, c.atom, [], (ps.map atom).headD [], nm, [], [], 0, 0, 0⟩ :: rrighty ps
    else if k = 7 then [⟨8, c.atom, [], [], nm, [], [], lo, hi, 0⟩]
    else []
where
  rrights (a : Str) : List Con → List Pc
  | [] => []
  | p :: ps => ⟨1, a, [], p.atom, [], [], [], 0, 0, 0⟩ :: (rright p ++ rrights a ps)
  rrighty : List Con → List Pc
  | [] => []
  | p :: ps => rright p ++ rrighty ps
theorem rright_eq (c : Con) : c.rright =
    if c.kind = 5 then rright.rrights c.atom c.parts
    else if c.kind = 6 then ⟨3, c.atom, [], (c.parts.map atom).headD [], c.name, [], [], 0, 0, 0⟩ :: rright.rrighty c.parts
    else if c.kind = 7 then [⟨8, c.atom, [], [], c.name, [], [], c.lo, c.hi, 0⟩]
    else [] := by cases c; rw [rright]; rfl
theorem rrights_append (a : Str) : ∀ (xs ys : List Con), rright.rrights a (xs ++ ys) = rright.rrights a xs ++ rright.rrights a ys
  | [], _ => rfl
  | x :: xs, ys => by simp only [List.cons_append, rright.rrights, rrights_append a xs ys, List.append_assoc]
theorem rrights_step (a : Str) {ps : List Con} {p : Con} {i : Nat} (hp : ps[i]? = some p) : rright.rrights a (ps.take (i + 1)) = rright.rrights a (ps.take i) ++ [⟨1, a, [], p.atom, [], [], [], 0, 0, 0⟩] ++ p.rright := by
  rw [take_snoc hp, rrights_append]; simp [rright.rrights]
theorem leftP_ins (frm : Int) : ∀ (m : Nat) (c : Con), c.sz ≤ m → ∀ l, c.leftP frm l = insA frm l c.rleft
  | 0, c, h => by have := c.sz_pos; omega
  | m + 1, c, h => fun l => by
    have key : ∀ ps : List Con, (∀ p ∈ ps, p.sz ≤ m) → ∀ l, leftP.lefts frm ps l = insA frm l (rleft.rlefts ps) := by
      intro ps
      induction ps with
      | nil => intro _ l; rfl
      | cons p ps ih =>
        intro hp l
        simp only [leftP.lefts, rleft.rlefts]
        rw [leftP_ins frm m p (hp p (by simp)), ih (fun q hq => hp q (by simp [hq])), insA_append]
    have hk := key c.parts (fun p hp => by have := sz_part hp; omega) l
    rw [leftP_eq, rleft_eq]
    split
    · have e : (c.parts.map atom).headD [] = firstS c 1 := by unfold firstS; rw [if_pos rfl]
      rw [hk, e, andP_ins frm c _ 1 _ (Nat.le_refl _), insA_append]
    · split
      · rw [hk, insA_append, insA_one]
      · split
        · rw [insA_one]
        · rfl
theorem rightP_ins (frm : Int) : ∀ (m : Nat) (c : Con), c.sz ≤ m → ∀ l, c.rightP frm l = insA frm l c.rright
  | 0, c, h => by have := c.sz_pos; omega
  | m + 1, c, h => fun l => by
    have key : ∀ ps : List Con, (∀ p ∈ ps, p.sz ≤ m) → ∀ a l, rightP.rights frm a ps l = insA frm l (rright.rrights a ps) := by
      intro ps
      induction ps with
      | nil => intro _ a l; rfl
      | cons p ps ih =>
        intro hp a l
        simp only [rightP.rights, rright.rrights]
        rw [rightP_ins frm m p (hp p (by simp)), ih (fun q hq => hp q (by simp [hq])), insA_cons, insA_append]
    have key2 : ∀ ps : List Con, (∀ p ∈ ps, p.sz ≤ m) → ∀ l, rightP.righty frm ps l = insA frm l (rright.rrighty ps) := by
      intro ps
      induction ps with
      | nil => intro _ l; rfl
      | cons p ps ih =>
        intro hp l
        simp only [rightP.righty, rright.rrighty]
        rw [rightP_ins frm m p (hp p (by simp)), ih (fun q hq => hp q (by simp [hq])), insA_append]
    have hps : ∀ p ∈ c.parts, p.sz ≤ m := fun p hp => by have := sz_part hp; omega
    rw [rightP_eq, rright_eq]
    split
    · exact key c.parts hps c.atom l
    · split
      · rw [key2 c.parts hps, insA_cons]
      · split
        · rw [insA_one]
        · rfl
theorem rleft_len : ∀ (m : Nat) (c : Con), c.sz ≤ m → c.rleft.length + 1 ≤ 2 * c.sz
  | 0, c, h => by have := c.sz_pos; omega
  | m + 1, c, h => by
    have key : ∀ ps : List Con, (∀ p ∈ ps, p.sz ≤ m) → (rleft.rlefts ps).length + ps.length ≤ 2 * sz.szs ps := by
      intro ps
      induction ps with
      | nil => intro _; simp [rleft.rlefts]
      | cons p ps ih =>
        intro hp
        have h1 := rleft_len m p (hp p (by simp))
        have h2 := ih fun q hq => hp q (by simp [hq])
        simp only [rleft.rlefts, sz.szs, List.length_append, List.length_cons]
        omega
    have hk := key c.parts (fun p hp => by have := sz_part hp; omega)
    have hz := sz_eq c
    rw [rleft_eq]
    split
    · rw [List.length_append, andL_len, List.length_drop]; omega
    · split
      · simp only [List.length_append, List.length_cons, List.length_nil]; omega
      · split <;> simp only [List.length_cons, List.length_nil] <;> omega
theorem rright_len : ∀ (m : Nat) (c : Con), c.sz ≤ m → c.rright.length + 1 ≤ 2 * c.sz
  | 0, c, h => by have := c.sz_pos; omega
  | m + 1, c, h => by
    have key : ∀ ps : List Con, (∀ p ∈ ps, p.sz ≤ m) → ∀ a, (rright.rrights a ps).length ≤ 2 * sz.szs ps := by
      intro ps
      induction ps with
      | nil => intro _ a; simp [rright.rrights]
      | cons p ps ih =>
        intro hp a
        have h1 := rright_len m p (hp p (by simp))
        have h2 := ih (fun q hq => hp q (by simp [hq])) a
        simp only [rright.rrights, sz.szs, List.length_append, List.length_cons]
        omega
    have key2 : ∀ ps : List Con, (∀ p ∈ ps, p.sz ≤ m) → (rright.rrighty ps).length ≤ 2 * sz.szs ps := by
      intro ps
      induction ps with
      | nil => intro _; simp [rright.rrighty]
      | cons p ps ih =>
        intro hp
        have h1 := rright_len m p (hp p (by simp))
        have h2 := ih fun q hq => hp q (by simp [hq])
        simp only [rright.rrighty, sz.szs, List.length_append]
        omega
    have hps : ∀ p ∈ c.parts, p.sz ≤ m := fun p hp => by have := sz_part hp; omega
    have hk := key c.parts hps c.atom
    have hk2 := key2 c.parts hps
    have hz := sz_eq c
    rw [rright_eq]
    split
    · omega
    · split
      · simp only [List.length_cons]; omega
      · split <;> simp only [List.length_cons, List.length_nil] <;> omega
/-- the atom by the reference -/
def nameR (c : Con) : Str :=
  if c.kind = 1 then [42] else if c.kind = 2 then [33] else if c.kind = 3 then c.name else if c.kind = 4 then [123] ++ c.name ++ [125] else [60] ++ c.textR ++ [62]
theorem nameR_eq {c : Con} (h : c.check = 0) : c.nameR = c.atom := by
  unfold nameR atom textN
  rw [if_pos h, textR_fine (check_zero h).1]
theorem has_of {c : Con} (h : c.check = 0) : c.has := .inl (check_zero h).1
end Con
namespace Ax
def chainL (role : Str) : List Str → Str → List Pc
  | [], _ => []
  | r :: t, f => ⟨6, [], [], [], f, r, if t = [] then role else f ++ [46] ++ r, 0, 0, 0⟩ :: chainL role t (if t = [] then role else f ++ [46] ++ r)
theorem chainP_ins (frm : Int) (role : Str) : ∀ (rs : List Str) (f : Str) (l : List Pc), chainP frm role rs f l = insA frm l (chainL role rs f)
  | [], _, _ => rfl
  | r :: t, f, l => by simp only [chainP, chainL, insA_cons]; exact chainP_ins frm role t _ _
theorem chainL_len (role : Str) : ∀ (rs : List Str) (f : Str), (chainL role rs f).length = rs.length
  | [], _ => rfl
  | r :: t, f => by simp only [chainL, List.length_cons, chainL_len role t]
/-- the pieces of a valid one before repetition is struck -/
def rpieces (x : Ax) : List Pc :=
  if x.kind = 1 then (x.left.rleft ++ x.right.rright) ++ [⟨1, x.left.atom, [], x.right.atom, [], [], [], 0, 0, 0⟩]
  else if x.kind = 2 then ((((x.left.rleft ++ x.right.rright) ++ [⟨1, x.left.atom, [], x.right.atom, [], [], [], 0, 0, 0⟩]) ++ x.right.rleft) ++ x.left.rright) ++ [⟨1, x.right.atom, [], x.left.atom, [], [], [], 0, 0, 0⟩]
  else if x.kind = 3 then (x.left.rleft ++ x.right.rleft) ++ [⟨2, x.left.atom, x.right.atom, [33], [], [], [], 0, 0, 0⟩]
  else if x.kind = 4 then x.right.rright ++ [⟨4, [42], [], x.right.atom, x.role, [], [], 0, 0, 0⟩]
  else if x.kind = 5 then [⟨5, [], [], [], x.roles.headD [], [], x.role, 0, 0, 0⟩]
  else if x.kind = 6 then chainL x.role (x.roles.drop 1) (x.roles.headD [])
  else if x.kind = 7 then [⟨7, [], [], [], x.role, [], [], 0, 0, 0⟩]
  else if x.kind = 8 then x.right.rright ++ [⟨1, [123] ++ x.a ++ [125], [], x.right.atom, [], [], [], 0, 0, 0⟩]
  else [⟨3, [123] ++ x.a ++ [125], [], [123] ++ x.b ++ [125], x.role, [], [], 0, 0, 0⟩]
theorem pieces_ins (frm : Int) (x : Ax) : x.pieces frm = insA frm [] x.rpieces := by
  have L := fun (c : Con) l => Con.leftP_ins frm _ c (Nat.le_refl _) l
  have R := fun (c : Con) l => Con.rightP_ins frm _ c (Nat.le_refl _) l
  unfold pieces rpieces
  split
  · rw [L, R, insA_append, insA_append, insA_one]
  · split
    · rw [L, R, L, R, insA_append, insA_append, insA_append, insA_append, insA_append, insA_one, insA_one]
    · split
      · rw [L, L, insA_append, insA_append, insA_one]
      · split
        · rw [R, insA_append, insA_one]
        · split
          · rfl
          · split
            · exact chainP_ins frm _ _ _ _
            · split
              · rfl
              · split
                · rw [R, insA_append, insA_one]
                · rfl
end Ax
end Go.Vs
