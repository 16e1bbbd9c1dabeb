/-
  Part of the proof of the law NormalPieces over this seat (no condition).
-/
import Derived.Test.YtoafjmalfclpoaaGreatDoorQNormalPieces2
import Derived.Test.YtoafjmalfclpoaaGreatDoorPk4
import Derived.Test.YtoafjmalfclpoaaGreatDoorQNormalPieces1
import Derived.Test.YtoafjmalfclpoaaGreatDoorPk5
import Derived.Test.YtoafjmalfclpoaaGreatDoorPk6
set_option linter.unusedVariables false
set_option linter.unusedSimpArgs false
set_option linter.unusedSectionVars false
/-
  My own contracts.
-/
namespace Go.Proofs.YtoafjmalfclpoaaGreatDoor
open Go Go.Sx Go.Proofs
set_option linter.unusedVariables false
attribute [local irreducible] Code.wp wpList wpAnyH

open Go.Vs
theorem eltPc : Elt Tryz.prog 25 31 10 128 := eltOf Tryz.underlying25 (z := .agg #[.int .i64 0, str [], str [], str [], str [], str [], str [], .int .i64 0, .int .i64 0, .int .i64 0]) (by kernel_rfl) rfl (by decide)

theorem Con.textR_len {c : Con} (hok : c.ok) (hh : c.has) (hz : c.sz ≤ 1000) : c.textR.length ≤ 100000 := by
  rcases hh with h | h
  · rw [Con.textR_fine h]
    have := Con.text_len _ c (Nat.le_refl _) hok h
    omega
  · unfold Con.textR
    rw [if_pos h.1]
    simp

theorem rName_c (c : Con) (hok : c.ok) (hh : c.has) (hz : c.sz ≤ 1000) : Tri Tryz.prog 47 #[Con.val c] [] [Con.memF c] (fun _ : Unit => str c.nameR) (fun _ => []) (fun _ => []) := by
 refine tri_of_body Tryz.func47 rfl rfl Tryz.ntmps47 rfl fun v0 => ?_
 have htl := Con.textR_len hok hh hz
 refine run_seq (run_region (ops_box rfl rfl fun b1 => ?_))
 refine ops_val (yld_assign rfl) rfl (ops_nil (fin_next rfl (run_seq (run_seq (run_region (ops_val (yld_field Tryz.runUnderlying38 rfl rfl rfl Tryz.sizeOf3) rfl ?_))))))
 refine ops_val (yld_load 0 Tryz.isAgg3 rfl rfl rfl) rfl ?_
 refine ops_nil (fin_next rfl (run_block (run_seq (run_region (ops_valB (yld_eql rfl rfl) rfl fun r1 hr1 => ?_)))))
 refine ops_val (yld_assign rfl) rfl (ops_nil (fin_next rfl ?_))
 cases r1
 ·
  replace hr1 := ne_of_beq_false hr1
  refine run_cond_f rfl (run_seq (run_region (ops_valB (yld_eql rfl rfl) rfl fun r2 hr2 => ?_)))
  refine ops_val (yld_assign rfl) rfl (ops_nil (fin_next rfl ?_))
  cases r2
  ·
   replace hr2 := ne_of_beq_false hr2
   refine run_cond_f rfl (run_seq (run_region (ops_valB (yld_eql rfl rfl) rfl fun r3 hr3 => ?_)))
   refine ops_val (yld_assign rfl) rfl (ops_nil (fin_next rfl ?_))
   cases r3
   ·
    replace hr3 := ne_of_beq_false hr3
    refine run_cond_f rfl (run_seq (run_region (ops_valB (yld_eql rfl rfl) rfl fun r4 hr4 => ?_)))
    refine ops_val (yld_assign rfl) rfl (ops_nil (fin_next rfl ?_))
    cases r4
    ·
     replace hr4 := ne_of_beq_false hr4
     refine run_cond_f rfl (run_skip (fin_next rfl (run_seq (run_region (ops_val (yld_loadS 0 Tryz.isAgg38 Tryz.sizeOf38 rfl rfl rfl) rfl ?_)))))
     refine ops_call (rText_c c hok hh hz) rfl pf_nil (fun v _ h => by exact ⟨h.1, trivial⟩) rfl fun _ => ?_
     refine ops_val (yld_cat rfl rfl (by first | omega | (simp only [List.length_append, List.length_cons, List.length_nil]; omega))) rfl ?_
     refine ops_val (yld_cat rfl rfl (by first | omega | (simp only [List.length_append, List.length_cons, List.length_nil]; omega))) rfl ?_
     refine ops_val (yld_assign rfl) rfl (ops_nil (fin_next rfl (run_ret ?_)))
     exact ret1 Tryz.results47 () (get_str rfl (by unfold Con.nameR; simp [*])) pf_nil (fun _ _ _ => trivial)
    ·
     replace hr4 := eq_of_beq hr4
     have hfi : c.fine := hh.elim id (fun q => by omega)
     have hnm := (Con.fields hfi).nm
     refine run_cond_t rfl (run_seq (run_region (ops_val (yld_field Tryz.runUnderlying38 rfl rfl rfl Tryz.sizeOf9) rfl ?_)))
     refine ops_val (yld_load 0 Tryz.isAgg9 rfl rfl rfl) rfl ?_
     refine ops_val (yld_cat rfl rfl (by first | omega | (simp only [List.length_append, List.length_cons, List.length_nil]; omega))) rfl ?_
     refine ops_val (yld_cat rfl rfl (by first | omega | (simp only [List.length_append, List.length_cons, List.length_nil]; omega))) rfl ?_
     refine ops_val (yld_assign rfl) rfl (ops_nil (fin_next rfl (run_ret ?_)))
     exact ret1 Tryz.results47 () (get_str rfl (by unfold Con.nameR; simp [*])) pf_nil (fun _ _ _ => trivial)
   ·
    replace hr3 := eq_of_beq hr3
    refine run_cond_t rfl (run_seq (run_region (ops_val (yld_field Tryz.runUnderlying38 rfl rfl rfl Tryz.sizeOf9) rfl ?_)))
    refine ops_val (yld_load 0 Tryz.isAgg9 rfl rfl rfl) rfl ?_
    refine ops_val (yld_assign rfl) rfl (ops_nil (fin_next rfl (run_ret ?_)))
    exact ret1 Tryz.results47 () (get_str rfl (by unfold Con.nameR; simp [*])) pf_nil (fun _ _ _ => trivial)
  ·
   replace hr2 := eq_of_beq hr2
   refine run_cond_t rfl (run_seq (run_region (ops_val (yld_assign rfl) rfl (ops_nil (fin_next rfl (run_ret ?_))))))
   exact ret1 Tryz.results47 () (get_str rfl (by unfold Con.nameR; simp [*])) pf_nil (fun _ _ _ => trivial)
 ·
  replace hr1 := eq_of_beq hr1
  refine run_cond_t rfl (run_seq (run_region (ops_val (yld_assign rfl) rfl (ops_nil (fin_next rfl (run_ret ?_))))))
  exact ret1 Tryz.results47 () (get_str rfl (by unfold Con.nameR; simp [*])) pf_nil (fun _ _ _ => trivial)

theorem rNameA_c (c : Con) (hok : c.ok) (hc : c.check = 0) : Tri Tryz.prog 47 #[c.val] [] [c.memF] (fun _ : Unit => str c.atom) (fun _ => []) (fun _ => []) := by
  have h := rName_c c hok (Con.has_of hc) (by have := (Con.check_zero hc).2; omega)
  rw [Con.nameR_eq hc] at h
  exact h

theorem rFirst_c (c : Con) (hok : c.ok) (hc : c.check = 0) (hk : c.kind = 5) (j : Nat) (hj : 1 ≤ j ∧ j ≤ c.parts.length) : Tri Tryz.prog 134 #[Con.val c, .int .i64 (j : Int)] [] [Con.memF c] (fun _ : Unit => str (c.firstS j)) (fun _ => []) (fun _ => []) := by
  refine tri_of_body Tryz.func134 rfl rfl Tryz.ntmps134 rfl fun v0 => ?_
  have hpl := Con.ok_len hok
  refine run_seq (run_region (ops_box rfl rfl fun b1 => ?_))
  refine ops_val (yld_assign rfl) rfl (ops_nil (fin_next rfl (run_seq (run_seq (run_region (ops_val (yld_move rfl) rfl (ops_valB (yld_eql rfl rfl) rfl fun r1 hr1 => ?_)))))))
  refine ops_nil (fin_next rfl ?_)
  cases r1
  · skip
    replace hr1 := ne_of_beq_false hr1
    refine run_cond_f rfl (run_skip (fin_next rfl (run_seq (run_region (ops_val (yld_field Tryz.runUnderlying38 rfl rfl rfl Tryz.sizeOf36) rfl ?_)))))
    refine ops_val (yld_load 0 Tryz.isAgg36 rfl rfl rfl) rfl ?_
    refine ops_val (yld_move rfl) rfl (ops_val (yld_eq (yld_sliceS (i := 0) (j := j) (kl := .i64) (kh := .i64) Tryz.runUnderlying36 Tryz.sizeOf38 rfl rfl rfl (by omega) (by omega)) (show _ = Value.slice (sad (Con.ad c) (Con.cap c) 0 5) (List.length (List.take j (Con.parts c))) ((Con.cap c) - 0) by rw [List.length_take, Nat.min_eq_left (by omega)]; rfl)) rfl ?_)
    refine ops_val (yld_struct strt38 rfl rfl) rfl ?_
    refine ops_call (rNameA_c (Con.mk 5 [] 0 0 (sad (Con.ad c) (Con.cap c) 0 5) ((Con.cap c) - 0) (List.take j (Con.parts c))) (Con.pre_ok hok j) (Con.pre_check hc hk (by omega) (by omega))) rfl pf_nil (fun v _ h => by exact ⟨(Con.pre_mem hok h.1 j), trivial⟩) rfl fun _ => ?_
    refine ops_val (yld_assign rfl) rfl (ops_nil (fin_next rfl (run_ret ?_)))
    exact ret1 Tryz.results134 () (get_str rfl (by unfold Con.firstS; rw [if_neg (by omega)]; rfl)) pf_nil (fun _ _ _ => trivial)
  · skip
    replace hr1 := eq_of_beq hr1
    have hlx0 : 0 < List.length (Con.parts c) := by omega
    obtain ⟨x0, hx0⟩ : ∃ e0, (Con.parts c)[0]? = some e0 := ⟨_, List.getElem?_eq_getElem hlx0⟩
    have hmx0 : x0 ∈ (Con.parts c) := List.mem_of_getElem? hx0
    refine run_cond_t rfl (run_seq (run_region (ops_val (yld_field Tryz.runUnderlying38 rfl rfl rfl Tryz.sizeOf36) rfl ?_)))
    refine ops_val (yld_load 0 Tryz.isAgg36 rfl rfl rfl) rfl ?_
    refine ops_val (yld_indexR Tryz.runUnderlying36 Tryz.sizeOf38 rfl rfl (fun v _ h => row_adr (n := 5) Con.cells_len (by decide) (by exact ((Con.mem_iff c v).1 h.1).1) hx0) (by omega) (by first | omega | (simp; done))) rfl ?_
    refine ops_val (yld_loadRS (ad := (Con.ad c)) (us := Con.cells x0) Tryz.isAgg38 Tryz.sizeOf38 rfl (fun v _ h => by exact ((Con.mem_iff c v).1 h.1).1) (Con.cells_len _) (row_cells Con.cells_len hx0)) rfl ?_
    refine ops_call (rNameA_c x0 (Con.ok_part hok hmx0) (Con.check_part hc hmx0)) rfl pf_nil (fun v _ h => by exact ⟨(Con.mem_part (c := c) h.1 hmx0), trivial⟩) rfl fun _ => ?_
    refine ops_val (yld_assign rfl) rfl (ops_nil (fin_next rfl (run_ret ?_)))
    exact ret1 Tryz.results134 () (get_str rfl (by unfold Con.firstS; rw [if_pos (by omega), headD_of (x := Con.atom x0) (by rw [List.getElem?_map, hx0]; rfl)])) pf_nil (fun _ _ _ => trivial)

theorem one_pcs {l : List Pc} {u : Value} (h : u ∈ l.flatMap Pc.cells) : u.oneCell' = true := by
  obtain ⟨y, _, hy⟩ := List.mem_flatMap.1 h
  exact one_all (Pc.cells_one y) u hy

theorem Con.rlefts_len (ps : List Con) (i : Nat) : (Con.rleft.rlefts (ps.take i)).length ≤ 2 * Con.sz.szs ps := by
  have key : ∀ ps : List Con, (Con.rleft.rlefts ps).length ≤ 2 * Con.sz.szs ps := by
    intro ps
    induction ps with
    | nil => simp [Con.rleft.rlefts]
    | cons p ps ih =>
      have := Con.rleft_len _ p (Nat.le_refl _)
      simp only [Con.rleft.rlefts, Con.sz.szs, List.length_append]
      omega
  have h1 := key (ps.take i)
  have h2 := Con.szs_take_le ps i
  omega
theorem Con.andL_get (c : Con) : ∀ (r : List Con) (j q : Nat) (p : Con), r[q]? = some p → (Con.andL c r j)[q]? = some ⟨2, Con.firstS c (j + q), p.atom, Con.firstS c (j + q + 1), [], [], [], 0, 0, 0⟩
  | [], _, _, _, h => by simp at h
  | x :: r, j, 0, p, h => by simp only [List.getElem?_cons_zero, Option.some.injEq] at h; subst h; rfl
  | x :: r, j, q + 1, p, h => by
    have := Con.andL_get c r (j + 1) q p (by simpa using h)
    rw [show j + 1 + q = j + (q + 1) by omega] at this
    simpa [Con.andL] using this
theorem Con.andL_step (c : Con) {q : Nat} {p : Con} (h : c.parts[(q + 1 : Nat)]? = some p) : (Con.andL c (c.parts.drop 1) 1).take (q + 1) = (Con.andL c (c.parts.drop 1) 1).take q ++ [⟨2, Con.firstS c (q + 1), p.atom, Con.firstS c (q + 2), [], [], [], 0, 0, 0⟩] := by
  have h1 := Con.andL_get c (c.parts.drop 1) 1 q p (by rw [List.getElem?_drop, Nat.add_comm]; exact h)
  rw [List.take_add_one, h1, show 1 + q = q + 1 by omega]
  rfl

theorem rLeft_c : ∀ (m : Nat) (c : Con), c.sz ≤ m → c.ok → c.check = 0 → Tri Tryz.prog 81 #[Con.val c] [] [Con.memF c] (fun y : {y : Value × Hp // SRow 31 10 y.1 c.rleft.length (c.rleft.flatMap Pc.cells) y.2} => y.1.1) (fun y => y.1.2) (fun _ => []) := by
 intro m
 induction m with
 | zero => intro c h; have := c.sz_pos; omega
 | succ m ih =>
  intro c hm hok hc
  have hpl := Con.ok_len hok
  have hz := (Con.check_zero hc).2
  refine tri_of_body Tryz.func81 rfl rfl Tryz.ntmps81 rfl fun v0 => ?_
  refine run_seq (run_region (ops_box rfl rfl fun b1 => ?_))
  refine ops_val (yld_assign rfl) rfl (ops_nil (fin_next rfl (run_seq (run_region (ops_val (yld_assign rfl) rfl (ops_nil (fin_next rfl ?_)))))))
  refine run_seq (run_seq (run_region (ops_val (yld_field Tryz.runUnderlying38 rfl rfl rfl Tryz.sizeOf3) rfl ?_)))
  refine ops_val (yld_load 0 Tryz.isAgg3 rfl rfl rfl) rfl ?_
  refine ops_nil (fin_next rfl (run_block (run_seq (run_region (ops_valB (yld_eql rfl rfl) rfl fun r1 hr1 => ?_)))))
  refine ops_val (yld_assign rfl) rfl (ops_nil (fin_next rfl ?_))
  cases r1
  ·
   replace hr1 := ne_of_beq_false hr1
   refine run_cond_f rfl (run_seq (run_region (ops_valB (yld_eql rfl rfl) rfl fun r2 hr2 => ?_)))
   refine ops_val (yld_assign rfl) rfl (ops_nil (fin_next rfl ?_))
   cases r2
   ·
    replace hr2 := ne_of_beq_false hr2
    refine run_cond_f rfl (run_seq (run_region (ops_valB (yld_eql rfl rfl) rfl fun r3 hr3 => ?_)))
    refine ops_val (yld_assign rfl) rfl (ops_nil (fin_next rfl ?_))
    cases r3
    ·
     replace hr3 := ne_of_beq_false hr3
     refine run_cond_f rfl (run_skip (fin_next rfl (run_seq (run_region (ops_val (yld_move rfl) rfl (ops_val (yld_assign rfl) rfl (ops_nil ?_)))))))
     refine fin_next rfl (run_ret ?_)
     exact ret1 Tryz.results81 ⟨(.slice none 0 0, []), by dsimp only; rw [Con.rleft_eq]; simp only [*, if_false]; exact SRow.nil _ _⟩ rfl pf_nil (fun _ _ _ => trivial)
    ·
     replace hr3 := eq_of_beq hr3
     refine run_cond_t rfl ?_
     refine run_drawH ((b1, .cells #[.int .i64 (Con.kind c), str (Con.name c), .int .i64 (Con.lo c), .int .i64 (Con.hi c), .slice (Con.ad c) (List.length (Con.parts c)) (Con.cap c)] 38 (0, 0)) :: []) (by kernel_rfl) ?_
     refine any_take 0 rfl (by kernel_rfl) (by kernel_rfl) (by kernel_rfl) (yld_move rfl) rfl (fun _ a b => ⟨a, b⟩) ?_
     refine any_take 1 rfl (by kernel_rfl) (by kernel_rfl) (by kernel_rfl) (yld_field Tryz.runUnderlying38 rfl rfl rfl Tryz.sizeOf9) rfl (fun _ a b => ⟨a, b⟩) ?_
     refine any_take 2 rfl (by kernel_rfl) (by kernel_rfl) (by kernel_rfl) (yld_load 0 Tryz.isAgg9 rfl rfl rfl) rfl (fun _ a b => ⟨a, b⟩) ?_
     refine any_take 3 rfl (by kernel_rfl) (by kernel_rfl) (by kernel_rfl) (yld_field Tryz.runUnderlying38 rfl rfl rfl Tryz.sizeOf3) rfl (fun _ a b => ⟨a, b⟩) ?_
     refine any_take 4 rfl (by kernel_rfl) (by kernel_rfl) (by kernel_rfl) (yld_load 0 Tryz.isAgg3 rfl rfl rfl) rfl (fun _ a b => ⟨a, b⟩) ?_
     refine any_take 5 rfl (by kernel_rfl) (by kernel_rfl) (by kernel_rfl) (yld_field Tryz.runUnderlying38 rfl rfl rfl Tryz.sizeOf3) rfl (fun _ a b => ⟨a, b⟩) ?_
     refine any_take 6 rfl (by kernel_rfl) (by kernel_rfl) (by kernel_rfl) (yld_load 0 Tryz.isAgg3 rfl rfl rfl) rfl (fun _ a b => ⟨a, b⟩) ?_
     refine any_take 7 rfl (by kernel_rfl) (by kernel_rfl) (by kernel_rfl) (yld_loadS 0 Tryz.isAgg38 Tryz.sizeOf38 rfl rfl rfl) rfl (fun _ a b => ⟨a, b⟩) ?_
     refine any_one 8 rfl (by kernel_rfl) ?_
     refine ops_call (rNameA_c c hok hc) rfl pf_nil (fun v _ h => by exact ⟨h.1, trivial⟩) rfl fun _ => ?_
     refine ops_nil (fin_inv rfl (any_next (fun _ a b => ⟨a, b⟩) ?_))
     refine any_take 9 rfl (by kernel_rfl) (by kernel_rfl) (by kernel_rfl) (yld_struct strt31 rfl rfl) rfl (fun _ a b => ⟨a, b⟩) ?_
     refine any_one 10 rfl (by kernel_rfl) ?_
     refine ops_slit Tryz.runUnderlying25 Tryz.sizeOf31 Tryz.zeroValue31 rfl rfl rfl rfl rfl rfl fun b2 => ?_
     refine ops_nil (fin_inv rfl (any_next (fun _ a b => ⟨a.tail, b⟩) ?_))
     refine any_one 11 rfl (by kernel_rfl) ?_
     refine ops_append (news := Pc.cells (Pc.mk 9 [] [] (Con.atom c) (Con.name c) [] [] (Con.lo c) (Con.hi c) 0)) eltPc (SRow.nil 31 10) rfl rfl pf_nil rfl (own_news 0 rfl) (fun u hu => one_all (Pc.cells_one _) u hu) (by simp only [maxLen]; omega) (by omega) rfl fun sv1 Hr1 hr1 => ?_
     refine ok_perm (@List.perm_append_comm _ _ [_, _]) ?_
     have hq1 : SRow 31 10 sv1 (([] : List Pc) ++ [(Pc.mk 9 [] [] (Con.atom c) (Con.name c) [] [] (Con.lo c) (Con.hi c) 0)]).length ((([] : List Pc) ++ [(Pc.mk 9 [] [] (Con.atom c) (Con.name c) [] [] (Con.lo c) (Con.hi c) 0)]).flatMap Pc.cells) Hr1 := by rw [List.length_append, List.flatMap_append]; simpa using hr1
     refine ops_nil (fin_inv rfl (any_next (fun _ a b => ⟨Vw.sat.sub (a.perm (pf_cons pf_here)), b⟩) ?_))
     refine any_take 12 rfl (by kernel_rfl) (by kernel_rfl) (by kernel_rfl) (yld_assign rfl) rfl (fun _ a b => ⟨Vw.sat.sub (a.perm (pf_cons pf_here)), b⟩) ?_
     refine any_done (by kernel_rfl) ?_
     refine fin_next rfl (run_seq (run_region (ops_val (yld_move rfl) rfl (ops_val (yld_assign rfl) rfl (ops_nil (fin_next rfl (run_ret ?_)))))))
     exact ret1 Tryz.results81 ⟨(sv1, Hr1), by dsimp only; rw [Con.rleft_eq]; simp only [*, if_true, if_false]; first | exact hq1 | (simp [Con.rleft.rlefts, Con.rright.rrighty]; simpa using hq1)⟩ rfl (pf_cons (pf_cons pf_end)) (fun _ _ _ => trivial)
   ·
    replace hr2 := eq_of_beq hr2
    have hl6 := (Con.fields (Con.check_zero hc).1).le
    have hm6 := (Con.fields (Con.check_zero hc).1).mo
    rw [show c.kind = 6 by omega] at hl6 hm6
    simp [nd, needL] at hl6 hm6
    have hlx0 : 0 < List.length (Con.parts c) := by omega
    obtain ⟨x0, hx0⟩ : ∃ e0, (Con.parts c)[0]? = some e0 := ⟨_, List.getElem?_eq_getElem hlx0⟩
    have hmx0 : x0 ∈ (Con.parts c) := List.mem_of_getElem? hx0
    obtain ⟨y0, hy0⟩ := List.length_eq_one_iff.1 (show c.parts.length = 1 by omega)
    have hy1 : y0 = x0 := by rw [hy0] at hx0; simpa using hx0
    subst hy1
    have hzl := Con.rleft_len _ y0 (Nat.le_refl _)
    have hzr := Con.rright_len _ y0 (Nat.le_refl _)
    have hz0 := Con.sz_part hmx0
    refine run_cond_t rfl ?_
    refine run_drawH ((b1, .cells #[.int .i64 (Con.kind c), str (Con.name c), .int .i64 (Con.lo c), .int .i64 (Con.hi c), .slice (Con.ad c) (List.length (Con.parts c)) (Con.cap c)] 38 (0, 0)) :: []) (by kernel_rfl) ?_
    refine any_take 0 rfl (by kernel_rfl) (by kernel_rfl) (by kernel_rfl) (yld_field Tryz.runUnderlying38 rfl rfl rfl Tryz.sizeOf36) rfl (fun _ a b => ⟨a, b⟩) ?_
    refine any_take 1 rfl (by kernel_rfl) (by kernel_rfl) (by kernel_rfl) (yld_load 0 Tryz.isAgg36 rfl rfl rfl) rfl (fun _ a b => ⟨a, b⟩) ?_
    refine any_take 2 rfl (by kernel_rfl) (by kernel_rfl) (by kernel_rfl) (yld_indexR Tryz.runUnderlying36 Tryz.sizeOf38 rfl rfl (fun v _ h => row_adr (n := 5) Con.cells_len (by decide) (by exact ((Con.mem_iff c v).1 h.1).1) hx0) (by omega) (by first | omega | (simp; done))) rfl (fun _ a b => ⟨a, b⟩) ?_
    refine any_take 3 rfl (by kernel_rfl) (by kernel_rfl) (by kernel_rfl) (yld_loadRS (ad := (Con.ad c)) (us := Con.cells y0) Tryz.isAgg38 Tryz.sizeOf38 rfl (fun v _ h => by exact ((Con.mem_iff c v).1 h.1).1) (Con.cells_len _) (row_cells Con.cells_len hx0)) rfl (fun _ a b => ⟨a, b⟩) ?_
    refine any_take 5 rfl (by kernel_rfl) (by kernel_rfl) (by kernel_rfl) (yld_field Tryz.runUnderlying38 rfl rfl rfl Tryz.sizeOf9) rfl (fun _ a b => ⟨a, b⟩) ?_
    refine any_take 6 rfl (by kernel_rfl) (by kernel_rfl) (by kernel_rfl) (yld_load 0 Tryz.isAgg9 rfl rfl rfl) rfl (fun _ a b => ⟨a, b⟩) ?_
    refine any_take 7 rfl (by kernel_rfl) (by kernel_rfl) (by kernel_rfl) (yld_field Tryz.runUnderlying38 rfl rfl rfl Tryz.sizeOf36) rfl (fun _ a b => ⟨a, b⟩) ?_
    refine any_take 8 rfl (by kernel_rfl) (by kernel_rfl) (by kernel_rfl) (yld_load 0 Tryz.isAgg36 rfl rfl rfl) rfl (fun _ a b => ⟨a, b⟩) ?_
    refine any_take 9 rfl (by kernel_rfl) (by kernel_rfl) (by kernel_rfl) (yld_indexR Tryz.runUnderlying36 Tryz.sizeOf38 rfl rfl (fun v _ h => row_adr (n := 5) Con.cells_len (by decide) (by exact ((Con.mem_iff c v).1 h.1).1) hx0) (by omega) (by first | omega | (simp; done))) rfl (fun _ a b => ⟨a, b⟩) ?_
    refine any_take 10 rfl (by kernel_rfl) (by kernel_rfl) (by kernel_rfl) (yld_loadRS (ad := (Con.ad c)) (us := Con.cells y0) Tryz.isAgg38 Tryz.sizeOf38 rfl (fun v _ h => by exact ((Con.mem_iff c v).1 h.1).1) (Con.cells_len _) (row_cells Con.cells_len hx0)) rfl (fun _ a b => ⟨a, b⟩) ?_
    refine any_take 12 rfl (by kernel_rfl) (by kernel_rfl) (by kernel_rfl) (yld_loadS 0 Tryz.isAgg38 Tryz.sizeOf38 rfl rfl rfl) rfl (fun _ a b => ⟨a, b⟩) ?_
    refine any_one 4 rfl (by kernel_rfl) ?_
    refine ops_call (ih y0 (by have := Con.sz_part hmx0; omega) (Con.ok_part hok hmx0) (Con.check_part hc hmx0)) rfl pf_nil (fun v _ h => by exact ⟨(Con.mem_part (c := c) h.1 hmx0), trivial⟩) rfl fun ⟨⟨sl1, HL1⟩, hl1⟩ => ?_
    dsimp only
    refine ops_nil (fin_inv rfl (any_next (fun _ a b => ⟨Vw.sat.sub (a.perm (pf_app pf_here)), b⟩) ?_))
    refine any_one 11 rfl (by kernel_rfl) ?_
    refine ops_call (rNameA_c y0 (Con.ok_part hok hmx0) (Con.check_part hc hmx0)) rfl pf_nil (fun v _ h => by exact ⟨(Con.mem_part (c := c) h.1 hmx0), trivial⟩) rfl fun _ => ?_
    refine ok_perm pf_un ?_
    refine ops_nil (fin_inv rfl (any_next (fun _ a b => ⟨Vw.sat.sub (a.perm (pf_app pf_here)), b⟩) ?_))
    refine any_one 13 rfl (by kernel_rfl) ?_
    refine ops_call (rNameA_c c hok hc) rfl pf_nil (fun v _ h => by exact ⟨h.1, trivial⟩) rfl fun _ => ?_
    refine ok_perm pf_un ?_
    refine ops_nil (fin_inv rfl (any_next (fun _ a b => ⟨Vw.sat.sub (a.perm (pf_app pf_here)), b⟩) ?_))
    refine any_take 14 rfl (by kernel_rfl) (by kernel_rfl) (by kernel_rfl) (yld_struct strt31 rfl rfl) rfl (fun _ a b => ⟨Vw.sat.sub (a.perm (pf_app pf_here)), b⟩) ?_
    refine any_one 15 rfl (by kernel_rfl) ?_
    refine ops_slit Tryz.runUnderlying25 Tryz.sizeOf31 Tryz.zeroValue31 rfl rfl rfl rfl rfl rfl fun b3 => ?_
    refine ops_nil (fin_inv rfl (any_next (fun _ a b => ⟨Vw.sat.sub (a.perm (pf_cons (pf_app pf_here))), b⟩) ?_))
    refine any_one 16 rfl (by kernel_rfl) ?_
    refine ops_append (news := Pc.cells (Pc.mk 4 (Con.atom y0) [] (Con.atom c) (Con.name c) [] [] 0 0 0)) eltPc hl1 rfl rfl (pf_cons pf_hereO) rfl (own_news 0 rfl) (fun u hu => one_all (Pc.cells_one _) u hu) (by simp only [maxLen]; omega) (by omega) rfl fun sv2 Hr2 hr2 => ?_
    refine ok_perm (@List.perm_append_comm _ _ [_, _]) ?_
    have hq2 : SRow 31 10 sv2 ((Con.rleft y0) ++ [(Pc.mk 4 (Con.atom y0) [] (Con.atom c) (Con.name c) [] [] 0 0 0)]).length (((Con.rleft y0) ++ [(Pc.mk 4 (Con.atom y0) [] (Con.atom c) (Con.name c) [] [] 0 0 0)]).flatMap Pc.cells) Hr2 := by rw [List.length_append, List.flatMap_append]; simpa using hr2
    refine ops_nil (fin_inv rfl (any_next (fun _ a b => ⟨Vw.sat.sub (a.perm (pf_cons pf_here)), b⟩) ?_))
    refine any_take 17 rfl (by kernel_rfl) (by kernel_rfl) (by kernel_rfl) (yld_assign rfl) rfl (fun _ a b => ⟨Vw.sat.sub (a.perm (pf_cons pf_here)), b⟩) ?_
    refine any_done (by kernel_rfl) ?_
    refine fin_next rfl (run_seq (run_region (ops_val (yld_move rfl) rfl (ops_val (yld_assign rfl) rfl (ops_nil (fin_next rfl (run_ret ?_)))))))
    exact ret1 Tryz.results81 ⟨(sv2, Hr2), by dsimp only; rw [Con.rleft_eq]; simp only [*, if_true, if_false]; first | exact hq2 | (simp [Con.rleft.rlefts, Con.rright.rrighty]; simpa using hq2)⟩ rfl (pf_cons (pf_cons pf_end)) (fun _ _ _ => trivial)
  ·
   replace hr1 := eq_of_beq hr1
   refine run_cond_t rfl (run_seq (run_seq (run_region (ops_val (yld_assign rfl) rfl (ops_nil (fin_next rfl (run_block ?_)))))))
   refine ok_fr [(1, .pointer (some ⟨b1, 0, none⟩)), (3, .slice none 0 0), (4, .int .i64 ((0 : Nat) : Int))] ⟨rfl, rfl, rfl, trivial⟩ ?_
   refine run_loop (ι := {y : Nat × Value × Hp // y.1 ≤ c.parts.length ∧ SRow 31 10 y.2.1 (Con.rleft.rlefts (c.parts.take y.1)).length ((Con.rleft.rlefts (c.parts.take y.1)).flatMap Pc.cells) y.2.2}) (fun y => [(1, .pointer (some ⟨b1, 0, none⟩)), (3, y.1.2.1), (4, .int .i64 (y.1.1 : Int))]) (fun y => _ :: y.1.2.2) (fun _ => _) (fun y => c.parts.length - y.1.1) ⟨(0, .slice none 0 0, []), by simp, SRow.nil _ _⟩ ?_
   rintro ⟨⟨i, sv, Hr⟩, hi, hrow⟩
   dsimp only at hi hrow
   dsimp only
   have hll := Con.rlefts_len c.parts i
   have hsc := Con.sz_eq c
   refine ok_fr [(1, .pointer (some ⟨b1, 0, none⟩)), (3, sv), (4, .int .i64 (i : Int))] ⟨rfl, rfl, rfl, trivial⟩ ?_
   refine run_seq (run_seq (run_region (ops_val (yld_move rfl) rfl (ops_val (yld_field Tryz.runUnderlying38 rfl rfl rfl Tryz.sizeOf36) rfl ?_))))
   refine ops_val (yld_load 0 Tryz.isAgg36 rfl rfl rfl) rfl ?_
   refine ops_val (yld_lenS Tryz.runUnderlying36 rfl) rfl ?_
   refine ops_valB (yld_lss rfl rfl) rfl fun r4 hr4 => ?_
   refine ops_nil (fin_next rfl ?_)
   cases r4
   ·
    replace hr4 := of_decide_eq_false hr4
    refine run_cond_f rfl (run_exit rfl (fin_next rfl (run_seq (run_region (ops_val (yld_assign rfl) rfl (ops_nil (fin_next rfl ?_)))))))
    refine run_block ?_
    have et : c.parts.take i = c.parts := List.take_of_length_le (by omega)
    rw [et] at hrow hll
    have hal := Con.andL_len c (c.parts.drop 1) 1
    rw [List.length_drop] at hal
    have hkm := (Con.fields (Con.check_zero hc).1).le
    have hko := (Con.fields (Con.check_zero hc).1).mo
    rw [show c.kind = 5 by omega] at hkm hko
    simp [nd, needL] at hkm hko
    refine ok_fr [(1, .pointer (some ⟨b1, 0, none⟩)), (3, sv), (5, .int .i64 ((0 + 2 : Nat) : Int))] ⟨rfl, rfl, rfl, trivial⟩ ?_
    refine run_loop (ι := {y : Nat × Value × Hp // y.1 + 1 ≤ c.parts.length ∧ SRow 31 10 y.2.1 ((Con.rleft.rlefts c.parts) ++ (Con.andL c (c.parts.drop 1) 1).take y.1).length (((Con.rleft.rlefts c.parts) ++ (Con.andL c (c.parts.drop 1) 1).take y.1).flatMap Pc.cells) y.2.2}) (fun y => [(1, .pointer (some ⟨b1, 0, none⟩)), (3, y.1.2.1), (5, .int .i64 ((y.1.1 + 2 : Nat) : Int))]) (fun y => _ :: y.1.2.2) (fun _ => _) (fun y => c.parts.length - y.1.1) ⟨(0, sv, Hr), by dsimp only; omega, by simpa using hrow⟩ ?_
    rintro ⟨⟨q, sw, Hw⟩, hq0, hrw⟩
    dsimp only at hq0 hrw
    dsimp only
    have hlq : (((Con.rleft.rlefts c.parts) ++ (Con.andL c (c.parts.drop 1) 1).take q)).length ≤ 2 * c.sz + 8 := by rw [List.length_append, List.length_take]; have hmn := Nat.min_le_right q (Con.andL c (c.parts.drop 1) 1).length; omega
    refine ok_fr [(1, .pointer (some ⟨b1, 0, none⟩)), (3, sw), (5, .int .i64 ((q + 2 : Nat) : Int))] ⟨rfl, rfl, rfl, trivial⟩ ?_
    refine run_seq (run_seq (run_region (ops_val (yld_move rfl) rfl (ops_val (yld_field Tryz.runUnderlying38 rfl rfl rfl Tryz.sizeOf36) rfl ?_))))
    refine ops_val (yld_load 0 Tryz.isAgg36 rfl rfl rfl) rfl ?_
    refine ops_val (yld_lenS Tryz.runUnderlying36 rfl) rfl ?_
    refine ops_valB (yld_leq rfl rfl) rfl fun r5 hr5 => ?_
    refine ops_nil (fin_next rfl ?_)
    cases r5
    ·
     replace hr5 := of_decide_eq_false hr5
     refine run_cond_f rfl (run_exit rfl (fin_next rfl (run_seq (run_region (ops_val (yld_move rfl) rfl (ops_val (yld_assign rfl) rfl (ops_nil ?_)))))))
     refine fin_next rfl (run_ret ?_)
     exact ret1 Tryz.results81 ⟨(sw, Hw), by dsimp only; rw [Con.rleft_eq]; rw [if_pos (by omega)]; have e9 : (Con.andL c (c.parts.drop 1) 1).take q = (Con.andL c (c.parts.drop 1) 1) := List.take_of_length_le (by omega); rw [e9] at hrw; exact hrw⟩ rfl (pf_cons pf_end) (fun _ _ _ => trivial)
    ·
     replace hr5 := of_decide_eq_true hr5
     have hlx1 : (q + 1 : Nat) < List.length (Con.parts c) := by omega
     obtain ⟨x1, hx1⟩ : ∃ e0, (Con.parts c)[(q + 1 : Nat)]? = some e0 := ⟨_, List.getElem?_eq_getElem hlx1⟩
     have hmx1 : x1 ∈ (Con.parts c) := List.mem_of_getElem? hx1
     refine run_cond_t rfl (run_skip (fin_next rfl (run_seq (run_block ?_))))
     refine run_drawH ((b1, .cells #[.int .i64 (Con.kind c), str (Con.name c), .int .i64 (Con.lo c), .int .i64 (Con.hi c), .slice (Con.ad c) (List.length (Con.parts c)) (Con.cap c)] 38 (0, 0)) :: []) (by kernel_rfl) ?_
     refine any_take 0 rfl (by kernel_rfl) (by kernel_rfl) (by kernel_rfl) (yld_move rfl) rfl (fun _ a b => ⟨Vw.sat.sub (a.perm pf_here), b⟩) ?_
     refine any_take 1 rfl (by kernel_rfl) (by kernel_rfl) (by kernel_rfl) (yld_loadS 0 Tryz.isAgg38 Tryz.sizeOf38 rfl rfl rfl) rfl (fun _ a b => ⟨Vw.sat.sub (a.perm pf_here), b⟩) ?_
     refine any_take 2 rfl (by kernel_rfl) (by kernel_rfl) (by kernel_rfl) (yld_move rfl) rfl (fun _ a b => ⟨Vw.sat.sub (a.perm pf_here), b⟩) ?_
     refine any_take 3 rfl (by kernel_rfl) (by kernel_rfl) (by kernel_rfl) (yld_eq (yld_arith rfl rfl rfl (wrap64 (by omega) (by omega))) (show _ = Value.int .i64 ((q + 1 : Nat) : Int) by congr 1; omega)) rfl (fun _ a b => ⟨Vw.sat.sub (a.perm pf_here), b⟩) ?_
     refine any_take 5 rfl (by kernel_rfl) (by kernel_rfl) (by kernel_rfl) (yld_field Tryz.runUnderlying38 rfl rfl rfl Tryz.sizeOf36) rfl (fun _ a b => ⟨Vw.sat.sub (a.perm pf_here), b⟩) ?_
     refine any_take 6 rfl (by kernel_rfl) (by kernel_rfl) (by kernel_rfl) (yld_load 0 Tryz.isAgg36 rfl rfl rfl) rfl (fun _ a b => ⟨Vw.sat.sub (a.perm pf_here), b⟩) ?_
     refine any_take 7 rfl (by kernel_rfl) (by kernel_rfl) (by kernel_rfl) (yld_move rfl) rfl (fun _ a b => ⟨Vw.sat.sub (a.perm pf_here), b⟩) ?_
     refine any_take 8 rfl (by kernel_rfl) (by kernel_rfl) (by kernel_rfl) (yld_eq (yld_arith rfl rfl rfl (wrap64 (by omega) (by omega))) (show _ = Value.int .i64 ((q + 1 : Nat) : Int) by congr 1; omega)) rfl (fun _ a b => ⟨Vw.sat.sub (a.perm pf_here), b⟩) ?_
     refine any_take 9 rfl (by kernel_rfl) (by kernel_rfl) (by kernel_rfl) (yld_indexR Tryz.runUnderlying36 Tryz.sizeOf38 rfl rfl (fun v _ h => row_adr (n := 5) Con.cells_len (by decide) (by exact ((Con.mem_iff c v).1 h.1).1) hx1) (by omega) (by first | omega | (simp; done))) rfl (fun _ a b => ⟨Vw.sat.sub (a.perm pf_here), b⟩) ?_
     refine any_take 10 rfl (by kernel_rfl) (by kernel_rfl) (by kernel_rfl) (yld_loadRS (ad := (Con.ad c)) (us := Con.cells x1) Tryz.isAgg38 Tryz.sizeOf38 rfl (fun v _ h => by exact ((Con.mem_iff c v).1 h.1).1) (Con.cells_len _) (row_cells Con.cells_len hx1)) rfl (fun _ a b => ⟨Vw.sat.sub (a.perm pf_here), b⟩) ?_
     refine any_take 12 rfl (by kernel_rfl) (by kernel_rfl) (by kernel_rfl) (yld_loadS 0 Tryz.isAgg38 Tryz.sizeOf38 rfl rfl rfl) rfl (fun _ a b => ⟨Vw.sat.sub (a.perm pf_here), b⟩) ?_
     refine any_take 13 rfl (by kernel_rfl) (by kernel_rfl) (by kernel_rfl) (yld_move rfl) rfl (fun _ a b => ⟨Vw.sat.sub (a.perm pf_here), b⟩) ?_
     refine any_one 4 rfl (by kernel_rfl) ?_
     refine ops_call (rFirst_c c hok hc (by omega) (q + 1) ⟨by omega, by omega⟩) rfl pf_nil (fun v _ h => by exact ⟨h.1, trivial⟩) rfl fun _ => ?_
     refine ops_nil (fin_inv rfl (any_next (fun _ a b => ⟨Vw.sat.sub (a.perm pf_here), b⟩) ?_))
     refine any_one 11 rfl (by kernel_rfl) ?_
     refine ops_call (rNameA_c x1 (Con.ok_part hok hmx1) (Con.check_part hc hmx1)) rfl pf_nil (fun v _ h => by exact ⟨(Con.mem_part (c := c) h.1 hmx1), trivial⟩) rfl fun _ => ?_
     refine ops_nil (fin_inv rfl (any_next (fun _ a b => ⟨Vw.sat.sub (a.perm pf_here), b⟩) ?_))
     refine any_one 14 rfl (by kernel_rfl) ?_
     refine ops_call (rFirst_c c hok hc (by omega) (q + 2) ⟨by omega, by omega⟩) rfl pf_nil (fun v _ h => by exact ⟨h.1, trivial⟩) rfl fun _ => ?_
     refine ops_nil (fin_inv rfl (any_next (fun _ a b => ⟨Vw.sat.sub (a.perm pf_here), b⟩) ?_))
     refine any_take 15 rfl (by kernel_rfl) (by kernel_rfl) (by kernel_rfl) (yld_struct strt31 rfl rfl) rfl (fun _ a b => ⟨Vw.sat.sub (a.perm pf_here), b⟩) ?_
     refine any_one 16 rfl (by kernel_rfl) ?_
     refine ops_slit Tryz.runUnderlying25 Tryz.sizeOf31 Tryz.zeroValue31 rfl rfl rfl rfl rfl rfl fun b4 => ?_
     refine ops_nil (fin_inv rfl (any_next (fun _ a b => ⟨Vw.sat.sub (a.perm (pf_cons pf_here)), b⟩) ?_))
     refine any_one 17 rfl (by kernel_rfl) ?_
     refine ops_append (news := Pc.cells (Pc.mk 2 (Con.firstS c (q + 1)) (Con.atom x1) (Con.firstS c (q + 2)) [] [] [] 0 0 0)) eltPc hrw rfl rfl (pf_cons (pf_cons pf_end)) rfl (own_news 0 rfl) (fun u hu => one_all (Pc.cells_one _) u hu) (by simp only [maxLen]; omega) (by omega) rfl fun sv3 Hr3 hr3 => ?_
     refine ok_perm (@List.perm_append_comm _ _ [_, _]) ?_
     have hq3 : SRow 31 10 sv3 (((Con.rleft.rlefts c.parts) ++ (Con.andL c (c.parts.drop 1) 1).take q) ++ [(Pc.mk 2 (Con.firstS c (q + 1)) (Con.atom x1) (Con.firstS c (q + 2)) [] [] [] 0 0 0)]).length ((((Con.rleft.rlefts c.parts) ++ (Con.andL c (c.parts.drop 1) 1).take q) ++ [(Pc.mk 2 (Con.firstS c (q + 1)) (Con.atom x1) (Con.firstS c (q + 2)) [] [] [] 0 0 0)]).flatMap Pc.cells) Hr3 := by rw [List.length_append, List.flatMap_append]; simpa using hr3
     refine ops_nil (fin_inv rfl (any_next (fun _ a b => ⟨Vw.sat.sub (a.perm (pf_cons pf_here)), b⟩) ?_))
     refine any_take 18 rfl (by kernel_rfl) (by kernel_rfl) (by kernel_rfl) (yld_assign rfl) rfl (fun _ a b => ⟨Vw.sat.sub (a.perm (pf_cons pf_here)), b⟩) ?_
     refine any_done (by kernel_rfl) ?_
     refine fin_next rfl (run_region (ops_val (yld_move rfl) rfl (ops_val (yld_arith rfl rfl rfl (wrap64 (by omega) (by omega))) rfl ?_)))
     refine ops_val (yld_assign rfl) rfl (ops_nil (fin_inv rfl ?_))
     have hst := Con.andL_step c (q := q) hx1
     exact ok_again ⟨(q + 1, sv3, Hr3), by dsimp only; omega, by dsimp only; rw [hst, ← List.append_assoc]; exact hq3⟩ (by dsimp only; omega) ⟨rfl, rfl, rfl, trivial⟩ (pf_takeB (pf_cons pf_here) (pf_cons pf_end)) (fun _ _ h => h)
   ·
    replace hr4 := of_decide_eq_true hr4
    have hlx1 : i < List.length (Con.parts c) := by omega
    obtain ⟨x1, hx1⟩ : ∃ e0, (Con.parts c)[i]? = some e0 := ⟨_, List.getElem?_eq_getElem hlx1⟩
    have hmx1 : x1 ∈ (Con.parts c) := List.mem_of_getElem? hx1
    have hzl := Con.rleft_len _ x1 (Nat.le_refl _)
    have hz1 := Con.sz_part hmx1
    refine run_cond_t rfl (run_skip (fin_next rfl (run_seq (run_block (run_region (ops_val (yld_move rfl) rfl (ops_val (yld_field Tryz.runUnderlying38 rfl rfl rfl Tryz.sizeOf36) rfl ?_)))))))
    refine ops_val (yld_load 0 Tryz.isAgg36 rfl rfl rfl) rfl ?_
    refine ops_val (yld_move rfl) rfl (ops_val (yld_indexR Tryz.runUnderlying36 Tryz.sizeOf38 rfl rfl (fun v _ h => row_adr (n := 5) Con.cells_len (by decide) (by exact ((Con.mem_iff c v).1 h.1).1) hx1) (by omega) (by first | omega | (simp; done))) rfl ?_)
    refine ops_val (yld_loadRS (ad := (Con.ad c)) (us := Con.cells x1) Tryz.isAgg38 Tryz.sizeOf38 rfl (fun v _ h => by exact ((Con.mem_iff c v).1 h.1).1) (Con.cells_len _) (row_cells Con.cells_len hx1)) rfl ?_
    refine ops_call (ih x1 (by have := Con.sz_part hmx1; omega) (Con.ok_part hok hmx1) (Con.check_part hc hmx1)) rfl pf_nil (fun v _ h => by exact ⟨(Con.mem_part (c := c) h.1 hmx1), trivial⟩) rfl fun ⟨⟨sl2, HL2⟩, hl2⟩ => ?_
    dsimp only
    refine ok_giveRowN hl2 pf_hereO fun al2 cl2 hsl2 hca2 hcb2 hcc2 => ?_
    subst hsl2
    refine ops_appendR (news := List.flatMap Pc.cells (Con.rleft x1)) eltPc hrow rfl rfl hcc2 hca2 (pf_cons pf_end) (by rw [fm_len Pc.cells 10 Pc.cells_len]) (fun v _ h => by exact h.1) (fun u hu => one_pcs hu) (by simp only [maxLen]; omega) (by omega) rfl fun sv4 Hr4 hr4 => ?_
    refine ok_perm (@List.perm_append_comm _ _ [_]) ?_
    have hq4 : SRow 31 10 sv4 ((Con.rleft.rlefts (c.parts.take i)) ++ (Con.rleft x1)).length (((Con.rleft.rlefts (c.parts.take i)) ++ (Con.rleft x1)).flatMap Pc.cells) Hr4 := by rw [List.length_append, List.flatMap_append]; simpa using hr4
    refine ops_val (yld_assign rfl) rfl (ops_nil (fin_next rfl (run_region (ops_val (yld_move rfl) rfl (ops_val (yld_arith rfl rfl rfl (wrap64 (by omega) (by omega))) rfl ?_)))))
    refine ops_val (yld_assign rfl) rfl (ops_nil (fin_inv rfl ?_))
    exact ok_again ⟨(i + 1, sv4, Hr4), hlx1, by dsimp only; rw [Con.rlefts_step hx1]; exact hq4⟩ (by dsimp only; omega) ⟨rfl, rfl, rfl, trivial⟩ (pf_takeB pf_here pf_end) (fun _ _ h => h.2)

theorem Con.rrights_len (a : Str) (ps : List Con) (i : Nat) : (Con.rright.rrights a (ps.take i)).length ≤ 2 * Con.sz.szs ps := by
  have key : ∀ ps : List Con, (Con.rright.rrights a ps).length ≤ 2 * Con.sz.szs ps := by
    intro ps
    induction ps with
    | nil => simp [Con.rright.rrights]
    | cons p ps ih =>
      have := Con.rright_len _ p (Nat.le_refl _)
      simp only [Con.rright.rrights, Con.sz.szs, List.length_append, List.length_cons]
      omega
  have h1 := key (ps.take i)
  have h2 := Con.szs_take_le ps i
  omega

theorem rRight_c : ∀ (m : Nat) (c : Con), c.sz ≤ m → c.ok → c.check = 0 → Tri Tryz.prog 82 #[Con.val c] [] [Con.memF c] (fun y : {y : Value × Hp // SRow 31 10 y.1 c.rright.length (c.rright.flatMap Pc.cells) y.2} => y.1.1) (fun y => y.1.2) (fun _ => []) := by
 intro m
 induction m with
 | zero => intro c h; have := c.sz_pos; omega
 | succ m ih =>
  intro c hm hok hc
  have hpl := Con.ok_len hok
  have hz := (Con.check_zero hc).2
  refine tri_of_body Tryz.func82 rfl rfl Tryz.ntmps82 rfl fun v0 => ?_
  refine run_seq (run_region (ops_box rfl rfl fun b1 => ?_))
  refine ops_val (yld_assign rfl) rfl (ops_nil (fin_next rfl (run_seq (run_region (ops_val (yld_assign rfl) rfl (ops_nil (fin_next rfl ?_)))))))
  refine run_seq (run_seq (run_region (ops_val (yld_field Tryz.runUnderlying38 rfl rfl rfl Tryz.sizeOf3) rfl ?_)))
  refine ops_val (yld_load 0 Tryz.isAgg3 rfl rfl rfl) rfl ?_
  refine ops_nil (fin_next rfl (run_block (run_seq (run_region (ops_valB (yld_eql rfl rfl) rfl fun r1 hr1 => ?_)))))
  refine ops_val (yld_assign rfl) rfl (ops_nil (fin_next rfl ?_))
  cases r1
  ·
   replace hr1 := ne_of_beq_false hr1
   refine run_cond_f rfl (run_seq (run_region (ops_valB (yld_eql rfl rfl) rfl fun r2 hr2 => ?_)))
   refine ops_val (yld_assign rfl) rfl (ops_nil (fin_next rfl ?_))
   cases r2
   ·
    replace hr2 := ne_of_beq_false hr2
    refine run_cond_f rfl (run_seq (run_region (ops_valB (yld_eql rfl rfl) rfl fun r3 hr3 => ?_)))
    refine ops_val (yld_assign rfl) rfl (ops_nil (fin_next rfl ?_))
    cases r3
    ·
     replace hr3 := ne_of_beq_false hr3
     refine run_cond_f rfl (run_skip (fin_next rfl (run_seq (run_region (ops_val (yld_move rfl) rfl (ops_val (yld_assign rfl) rfl (ops_nil ?_)))))))
     refine fin_next rfl (run_ret ?_)
     exact ret1 Tryz.results82 ⟨(.slice none 0 0, []), by dsimp only; rw [Con.rright_eq]; simp only [*, if_false]; exact SRow.nil _ _⟩ rfl pf_nil (fun _ _ _ => trivial)
    ·
     replace hr3 := eq_of_beq hr3
     refine run_cond_t rfl ?_
     refine run_drawH ((b1, .cells #[.int .i64 (Con.kind c), str (Con.name c), .int .i64 (Con.lo c), .int .i64 (Con.hi c), .slice (Con.ad c) (List.length (Con.parts c)) (Con.cap c)] 38 (0, 0)) :: []) (by kernel_rfl) ?_
     refine any_take 0 rfl (by kernel_rfl) (by kernel_rfl) (by kernel_rfl) (yld_move rfl) rfl (fun _ a b => ⟨a, b⟩) ?_
     refine any_take 1 rfl (by kernel_rfl) (by kernel_rfl) (by kernel_rfl) (yld_loadS 0 Tryz.isAgg38 Tryz.sizeOf38 rfl rfl rfl) rfl (fun _ a b => ⟨a, b⟩) ?_
     refine any_take 3 rfl (by kernel_rfl) (by kernel_rfl) (by kernel_rfl) (yld_field Tryz.runUnderlying38 rfl rfl rfl Tryz.sizeOf9) rfl (fun _ a b => ⟨a, b⟩) ?_
     refine any_take 4 rfl (by kernel_rfl) (by kernel_rfl) (by kernel_rfl) (yld_load 0 Tryz.isAgg9 rfl rfl rfl) rfl (fun _ a b => ⟨a, b⟩) ?_
     refine any_take 5 rfl (by kernel_rfl) (by kernel_rfl) (by kernel_rfl) (yld_field Tryz.runUnderlying38 rfl rfl rfl Tryz.sizeOf3) rfl (fun _ a b => ⟨a, b⟩) ?_
     refine any_take 6 rfl (by kernel_rfl) (by kernel_rfl) (by kernel_rfl) (yld_load 0 Tryz.isAgg3 rfl rfl rfl) rfl (fun _ a b => ⟨a, b⟩) ?_
     refine any_take 7 rfl (by kernel_rfl) (by kernel_rfl) (by kernel_rfl) (yld_field Tryz.runUnderlying38 rfl rfl rfl Tryz.sizeOf3) rfl (fun _ a b => ⟨a, b⟩) ?_
     refine any_take 8 rfl (by kernel_rfl) (by kernel_rfl) (by kernel_rfl) (yld_load 0 Tryz.isAgg3 rfl rfl rfl) rfl (fun _ a b => ⟨a, b⟩) ?_
     refine any_one 2 rfl (by kernel_rfl) ?_
     refine ops_call (rNameA_c c hok hc) rfl pf_nil (fun v _ h => by exact ⟨h.1, trivial⟩) rfl fun _ => ?_
     refine ops_nil (fin_inv rfl (any_next (fun _ a b => ⟨a, b⟩) ?_))
     refine any_take 9 rfl (by kernel_rfl) (by kernel_rfl) (by kernel_rfl) (yld_struct strt31 rfl rfl) rfl (fun _ a b => ⟨a, b⟩) ?_
     refine any_one 10 rfl (by kernel_rfl) ?_
     refine ops_slit Tryz.runUnderlying25 Tryz.sizeOf31 Tryz.zeroValue31 rfl rfl rfl rfl rfl rfl fun b2 => ?_
     refine ops_nil (fin_inv rfl (any_next (fun _ a b => ⟨a.tail, b⟩) ?_))
     refine any_one 11 rfl (by kernel_rfl) ?_
     refine ops_append (news := Pc.cells (Pc.mk 8 (Con.atom c) [] [] (Con.name c) [] [] (Con.lo c) (Con.hi c) 0)) eltPc (SRow.nil 31 10) rfl rfl pf_nil rfl (own_news 0 rfl) (fun u hu => one_all (Pc.cells_one _) u hu) (by simp only [maxLen]; first | omega | (simp only [List.length_append, List.length_cons, List.length_nil]; omega)) (by first | omega | (simp only [List.length_append, List.length_cons, List.length_nil]; omega)) rfl fun sv1 Hr1 hr1 => ?_
     refine ok_perm (@List.perm_append_comm _ _ [_, _]) ?_
     have hq1 : SRow 31 10 sv1 (([] : List Pc) ++ [(Pc.mk 8 (Con.atom c) [] [] (Con.name c) [] [] (Con.lo c) (Con.hi c) 0)]).length ((([] : List Pc) ++ [(Pc.mk 8 (Con.atom c) [] [] (Con.name c) [] [] (Con.lo c) (Con.hi c) 0)]).flatMap Pc.cells) Hr1 := by rw [List.length_append, List.flatMap_append]; simpa using hr1
     refine ops_nil (fin_inv rfl (any_next (fun _ a b => ⟨Vw.sat.sub (a.perm (pf_cons pf_here)), b⟩) ?_))
     refine any_take 12 rfl (by kernel_rfl) (by kernel_rfl) (by kernel_rfl) (yld_assign rfl) rfl (fun _ a b => ⟨Vw.sat.sub (a.perm (pf_cons pf_here)), b⟩) ?_
     refine any_done (by kernel_rfl) ?_
     refine fin_next rfl (run_seq (run_region (ops_val (yld_move rfl) rfl (ops_val (yld_assign rfl) rfl (ops_nil (fin_next rfl (run_ret ?_)))))))
     exact ret1 Tryz.results82 ⟨(sv1, Hr1), by dsimp only; rw [Con.rright_eq]; simp only [*, if_true, if_false]; first | exact hq1 | (simp [Con.rright.rrighty]; simpa using hq1)⟩ rfl (pf_cons (pf_cons pf_end)) (fun _ _ _ => trivial)
   ·
    replace hr2 := eq_of_beq hr2
    have hl6 := (Con.fields (Con.check_zero hc).1).le
    have hm6 := (Con.fields (Con.check_zero hc).1).mo
    rw [show c.kind = 6 by omega] at hl6 hm6
    simp [nd, needL] at hl6 hm6
    have hlx0 : 0 < List.length (Con.parts c) := by omega
    obtain ⟨x0, hx0⟩ : ∃ e0, (Con.parts c)[0]? = some e0 := ⟨_, List.getElem?_eq_getElem hlx0⟩
    have hmx0 : x0 ∈ (Con.parts c) := List.mem_of_getElem? hx0
    obtain ⟨y0, hy0⟩ := List.length_eq_one_iff.1 (show c.parts.length = 1 by omega)
    have hy1 : y0 = x0 := by rw [hy0] at hx0; simpa using hx0
    subst hy1
    have hzl := Con.rleft_len _ y0 (Nat.le_refl _)
    have hzr := Con.rright_len _ y0 (Nat.le_refl _)
    have hz0 := Con.sz_part hmx0
    refine run_cond_t rfl (run_seq ?_)
    refine run_drawH ((b1, .cells #[.int .i64 (Con.kind c), str (Con.name c), .int .i64 (Con.lo c), .int .i64 (Con.hi c), .slice (Con.ad c) (List.length (Con.parts c)) (Con.cap c)] 38 (0, 0)) :: []) (by kernel_rfl) ?_
    refine any_take 0 rfl (by kernel_rfl) (by kernel_rfl) (by kernel_rfl) (yld_move rfl) rfl (fun _ a b => ⟨a, b⟩) ?_
    refine any_take 1 rfl (by kernel_rfl) (by kernel_rfl) (by kernel_rfl) (yld_loadS 0 Tryz.isAgg38 Tryz.sizeOf38 rfl rfl rfl) rfl (fun _ a b => ⟨a, b⟩) ?_
    refine any_take 3 rfl (by kernel_rfl) (by kernel_rfl) (by kernel_rfl) (yld_field Tryz.runUnderlying38 rfl rfl rfl Tryz.sizeOf9) rfl (fun _ a b => ⟨a, b⟩) ?_
    refine any_take 4 rfl (by kernel_rfl) (by kernel_rfl) (by kernel_rfl) (yld_load 0 Tryz.isAgg9 rfl rfl rfl) rfl (fun _ a b => ⟨a, b⟩) ?_
    refine any_take 5 rfl (by kernel_rfl) (by kernel_rfl) (by kernel_rfl) (yld_field Tryz.runUnderlying38 rfl rfl rfl Tryz.sizeOf36) rfl (fun _ a b => ⟨a, b⟩) ?_
    refine any_take 6 rfl (by kernel_rfl) (by kernel_rfl) (by kernel_rfl) (yld_load 0 Tryz.isAgg36 rfl rfl rfl) rfl (fun _ a b => ⟨a, b⟩) ?_
    refine any_take 7 rfl (by kernel_rfl) (by kernel_rfl) (by kernel_rfl) (yld_indexR Tryz.runUnderlying36 Tryz.sizeOf38 rfl rfl (fun v _ h => row_adr (n := 5) Con.cells_len (by decide) (by exact ((Con.mem_iff c v).1 h.1).1) hx0) (by omega) (by first | omega | (simp; done))) rfl (fun _ a b => ⟨a, b⟩) ?_
    refine any_take 8 rfl (by kernel_rfl) (by kernel_rfl) (by kernel_rfl) (yld_loadRS (ad := (Con.ad c)) (us := Con.cells y0) Tryz.isAgg38 Tryz.sizeOf38 rfl (fun v _ h => by exact ((Con.mem_iff c v).1 h.1).1) (Con.cells_len _) (row_cells Con.cells_len hx0)) rfl (fun _ a b => ⟨a, b⟩) ?_
    refine any_one 2 rfl (by kernel_rfl) ?_
    refine ops_call (rNameA_c c hok hc) rfl pf_nil (fun v _ h => by exact ⟨h.1, trivial⟩) rfl fun _ => ?_
    refine ops_nil (fin_inv rfl (any_next (fun _ a b => ⟨a, b⟩) ?_))
    refine any_one 9 rfl (by kernel_rfl) ?_
    refine ops_call (rNameA_c y0 (Con.ok_part hok hmx0) (Con.check_part hc hmx0)) rfl pf_nil (fun v _ h => by exact ⟨(Con.mem_part (c := c) h.1 hmx0), trivial⟩) rfl fun _ => ?_
    refine ops_nil (fin_inv rfl (any_next (fun _ a b => ⟨a, b⟩) ?_))
    refine any_take 10 rfl (by kernel_rfl) (by kernel_rfl) (by kernel_rfl) (yld_struct strt31 rfl rfl) rfl (fun _ a b => ⟨a, b⟩) ?_
    refine any_one 11 rfl (by kernel_rfl) ?_
    refine ops_slit Tryz.runUnderlying25 Tryz.sizeOf31 Tryz.zeroValue31 rfl rfl rfl rfl rfl rfl fun b3 => ?_
    refine ops_nil (fin_inv rfl (any_next (fun _ a b => ⟨a.tail, b⟩) ?_))
    refine any_one 12 rfl (by kernel_rfl) ?_
    refine ops_append (news := Pc.cells (Pc.mk 3 (Con.atom c) [] (Con.atom y0) (Con.name c) [] [] 0 0 0)) eltPc (SRow.nil 31 10) rfl rfl pf_nil rfl (own_news 0 rfl) (fun u hu => one_all (Pc.cells_one _) u hu) (by simp only [maxLen]; first | omega | (simp only [List.length_append, List.length_cons, List.length_nil]; omega)) (by first | omega | (simp only [List.length_append, List.length_cons, List.length_nil]; omega)) rfl fun sv2 Hr2 hr2 => ?_
    refine ok_perm (@List.perm_append_comm _ _ [_, _]) ?_
    have hq2 : SRow 31 10 sv2 (([] : List Pc) ++ [(Pc.mk 3 (Con.atom c) [] (Con.atom y0) (Con.name c) [] [] 0 0 0)]).length ((([] : List Pc) ++ [(Pc.mk 3 (Con.atom c) [] (Con.atom y0) (Con.name c) [] [] 0 0 0)]).flatMap Pc.cells) Hr2 := by rw [List.length_append, List.flatMap_append]; simpa using hr2
    refine ops_nil (fin_inv rfl (any_next (fun _ a b => ⟨Vw.sat.sub (a.perm (pf_cons pf_here)), b⟩) ?_))
    refine any_take 13 rfl (by kernel_rfl) (by kernel_rfl) (by kernel_rfl) (yld_assign rfl) rfl (fun _ a b => ⟨Vw.sat.sub (a.perm (pf_cons pf_here)), b⟩) ?_
    refine any_done (by kernel_rfl) ?_
    refine fin_next rfl (run_region (ops_val (yld_move rfl) rfl (ops_val (yld_field Tryz.runUnderlying38 rfl rfl rfl Tryz.sizeOf36) rfl ?_)))
    refine ops_val (yld_load 1 Tryz.isAgg36 rfl rfl rfl) rfl ?_
    refine ops_val (yld_indexR Tryz.runUnderlying36 Tryz.sizeOf38 rfl rfl (fun v _ h => row_adr (n := 5) Con.cells_len (by decide) (by exact ((Con.mem_iff c v).1 h.1).1) hx0) (by omega) (by first | omega | (simp; done))) rfl ?_
    refine ops_val (yld_loadRS (ad := (Con.ad c)) (us := Con.cells y0) Tryz.isAgg38 Tryz.sizeOf38 rfl (fun v _ h => by exact ((Con.mem_iff c v).1 h.1).1) (Con.cells_len _) (row_cells Con.cells_len hx0)) rfl ?_
    refine ops_call (ih y0 (by have := Con.sz_part hmx0; omega) (Con.ok_part hok hmx0) (Con.check_part hc hmx0)) rfl pf_nil (fun v _ h => by exact ⟨(Con.mem_part (c := c) h.1 hmx0), trivial⟩) rfl fun ⟨⟨sl1, HL1⟩, hl1⟩ => ?_
    dsimp only
    refine ok_giveRowN hl1 pf_hereO fun al1 cl1 hsl1 hca1 hcb1 hcc1 => ?_
    subst hsl1
    refine ops_appendR (news := List.flatMap Pc.cells (Con.rright y0)) eltPc hq2 rfl rfl hcc1 hca1 (pf_cons (pf_cons pf_end)) (by rw [fm_len Pc.cells 10 Pc.cells_len]) (fun v _ h => by exact h.1) (fun u hu => one_pcs hu) (by simp only [maxLen]; first | omega | (simp only [List.length_append, List.length_cons, List.length_nil]; omega)) (by first | omega | (simp only [List.length_append, List.length_cons, List.length_nil]; omega)) rfl fun sv3 Hr3 hr3 => ?_
    refine ok_perm (@List.perm_append_comm _ _ [_, _]) ?_
    have hq3 : SRow 31 10 sv3 ((([] : List Pc) ++ [(Pc.mk 3 (Con.atom c) [] (Con.atom y0) (Con.name c) [] [] 0 0 0)]) ++ (Con.rright y0)).length (((([] : List Pc) ++ [(Pc.mk 3 (Con.atom c) [] (Con.atom y0) (Con.name c) [] [] 0 0 0)]) ++ (Con.rright y0)).flatMap Pc.cells) Hr3 := by rw [List.length_append, List.flatMap_append]; simpa using hr3
    refine ops_val (yld_assign rfl) rfl (ops_nil (fin_next rfl (run_seq (run_region (ops_val (yld_move rfl) rfl (ops_val (yld_assign rfl) rfl (ops_nil ?_)))))))
    refine fin_next rfl (run_ret ?_)
    exact ret1 Tryz.results82 ⟨(sv3, Hr3), by dsimp only; rw [Con.rright_eq]; simp only [*, if_true, if_false]; first | exact hq3 | (simp [Con.rright.rrighty]; simpa using hq3)⟩ rfl (pf_cons (pf_cons pf_end)) (fun _ _ _ => trivial)
  ·
   replace hr1 := eq_of_beq hr1
   refine run_cond_t rfl (run_seq (run_region (ops_val (yld_assign rfl) rfl (ops_nil (fin_next rfl (run_block (ok_fr [(1, .pointer (some ⟨b1, 0, none⟩)), (3, .slice none 0 0), (4, .int .i64 ((0 : Nat) : Int))] ⟨rfl, rfl, rfl, trivial⟩ ?_)))))))
   refine run_loop (ι := {y : Nat × Value × Hp // y.1 ≤ c.parts.length ∧ SRow 31 10 y.2.1 (Con.rright.rrights (Con.atom c) (c.parts.take y.1)).length ((Con.rright.rrights (Con.atom c) (c.parts.take y.1)).flatMap Pc.cells) y.2.2}) (fun y => [(1, .pointer (some ⟨b1, 0, none⟩)), (3, y.1.2.1), (4, .int .i64 (y.1.1 : Int))]) (fun y => _ :: y.1.2.2) (fun _ => _) (fun y => c.parts.length - y.1.1) ⟨(0, .slice none 0 0, []), by simp, SRow.nil _ _⟩ ?_
   rintro ⟨⟨i, sv, Hr⟩, hi, hrow⟩
   dsimp only at hi hrow
   dsimp only
   have hll := Con.rrights_len (Con.atom c) c.parts i
   have hsc := Con.sz_eq c
   refine ok_fr [(1, .pointer (some ⟨b1, 0, none⟩)), (3, sv), (4, .int .i64 (i : Int))] ⟨rfl, rfl, rfl, trivial⟩ ?_
   refine run_seq (run_seq (run_region (ops_val (yld_move rfl) rfl (ops_val (yld_field Tryz.runUnderlying38 rfl rfl rfl Tryz.sizeOf36) rfl ?_))))
   refine ops_val (yld_load 0 Tryz.isAgg36 rfl rfl rfl) rfl ?_
   refine ops_val (yld_lenS Tryz.runUnderlying36 rfl) rfl ?_
   refine ops_valB (yld_lss rfl rfl) rfl fun r4 hr4 => ?_
   refine ops_nil (fin_next rfl ?_)
   cases r4
   ·
    replace hr4 := of_decide_eq_false hr4
    refine run_cond_f rfl (run_exit rfl (fin_next rfl (run_seq (run_region (ops_val (yld_move rfl) rfl (ops_val (yld_assign rfl) rfl (ops_nil ?_)))))))
    refine fin_next rfl (run_ret ?_)
    exact ret1 Tryz.results82 ⟨(sv, Hr), by dsimp only; rw [Con.rright_eq]; rw [if_pos (by omega)]; have e9 : c.parts.take i = c.parts := List.take_of_length_le (by omega); rw [e9] at hrow; exact hrow⟩ rfl (pf_cons pf_end) (fun _ _ _ => trivial)
   ·
    replace hr4 := of_decide_eq_true hr4
    have hlx1 : i < List.length (Con.parts c) := by omega
    obtain ⟨x1, hx1⟩ : ∃ e0, (Con.parts c)[i]? = some e0 := ⟨_, List.getElem?_eq_getElem hlx1⟩
    have hmx1 : x1 ∈ (Con.parts c) := List.mem_of_getElem? hx1
    have hzl := Con.rright_len _ x1 (Nat.le_refl _)
    have hz1 := Con.sz_part hmx1
    refine run_cond_t rfl (run_skip (fin_next rfl (run_seq (run_block (run_seq ?_)))))
    refine run_drawH ((b1, .cells #[.int .i64 (Con.kind c), str (Con.name c), .int .i64 (Con.lo c), .int .i64 (Con.hi c), .slice (Con.ad c) (List.length (Con.parts c)) (Con.cap c)] 38 (0, 0)) :: []) (by kernel_rfl) ?_
    refine any_take 0 rfl (by kernel_rfl) (by kernel_rfl) (by kernel_rfl) (yld_move rfl) rfl (fun _ a b => ⟨Vw.sat.sub (a.perm pf_here), b⟩) ?_
    refine any_take 1 rfl (by kernel_rfl) (by kernel_rfl) (by kernel_rfl) (yld_loadS 0 Tryz.isAgg38 Tryz.sizeOf38 rfl rfl rfl) rfl (fun _ a b => ⟨Vw.sat.sub (a.perm pf_here), b⟩) ?_
    refine any_take 3 rfl (by kernel_rfl) (by kernel_rfl) (by kernel_rfl) (yld_field Tryz.runUnderlying38 rfl rfl rfl Tryz.sizeOf36) rfl (fun _ a b => ⟨Vw.sat.sub (a.perm pf_here), b⟩) ?_
    refine any_take 4 rfl (by kernel_rfl) (by kernel_rfl) (by kernel_rfl) (yld_load 0 Tryz.isAgg36 rfl rfl rfl) rfl (fun _ a b => ⟨Vw.sat.sub (a.perm pf_here), b⟩) ?_
    refine any_take 5 rfl (by kernel_rfl) (by kernel_rfl) (by kernel_rfl) (yld_move rfl) rfl (fun _ a b => ⟨Vw.sat.sub (a.perm pf_here), b⟩) ?_
    refine any_take 6 rfl (by kernel_rfl) (by kernel_rfl) (by kernel_rfl) (yld_indexR Tryz.runUnderlying36 Tryz.sizeOf38 rfl rfl (fun v _ h => row_adr (n := 5) Con.cells_len (by decide) (by exact ((Con.mem_iff c v).1 h.1).1) hx1) (by omega) (by first | omega | (simp; done))) rfl (fun _ a b => ⟨Vw.sat.sub (a.perm pf_here), b⟩) ?_
    refine any_take 7 rfl (by kernel_rfl) (by kernel_rfl) (by kernel_rfl) (yld_loadRS (ad := (Con.ad c)) (us := Con.cells x1) Tryz.isAgg38 Tryz.sizeOf38 rfl (fun v _ h => by exact ((Con.mem_iff c v).1 h.1).1) (Con.cells_len _) (row_cells Con.cells_len hx1)) rfl (fun _ a b => ⟨Vw.sat.sub (a.perm pf_here), b⟩) ?_
    refine any_one 2 rfl (by kernel_rfl) ?_
    refine ops_call (rNameA_c c hok hc) rfl pf_nil (fun v _ h => by exact ⟨h.1, trivial⟩) rfl fun _ => ?_
    refine ops_nil (fin_inv rfl (any_next (fun _ a b => ⟨Vw.sat.sub (a.perm pf_here), b⟩) ?_))
    refine any_one 8 rfl (by kernel_rfl) ?_
    refine ops_call (rNameA_c x1 (Con.ok_part hok hmx1) (Con.check_part hc hmx1)) rfl pf_nil (fun v _ h => by exact ⟨(Con.mem_part (c := c) h.1 hmx1), trivial⟩) rfl fun _ => ?_
    refine ops_nil (fin_inv rfl (any_next (fun _ a b => ⟨Vw.sat.sub (a.perm pf_here), b⟩) ?_))
    refine any_take 9 rfl (by kernel_rfl) (by kernel_rfl) (by kernel_rfl) (yld_struct strt31 rfl rfl) rfl (fun _ a b => ⟨Vw.sat.sub (a.perm pf_here), b⟩) ?_
    refine any_one 10 rfl (by kernel_rfl) ?_
    refine ops_slit Tryz.runUnderlying25 Tryz.sizeOf31 Tryz.zeroValue31 rfl rfl rfl rfl rfl rfl fun b4 => ?_
    refine ops_nil (fin_inv rfl (any_next (fun _ a b => ⟨Vw.sat.sub (a.perm (pf_cons pf_here)), b⟩) ?_))
    refine any_one 11 rfl (by kernel_rfl) ?_
    refine ops_append (news := Pc.cells (Pc.mk 1 (Con.atom c) [] (Con.atom x1) [] [] [] 0 0 0)) eltPc hrow rfl rfl (pf_cons (pf_cons pf_end)) rfl (own_news 0 rfl) (fun u hu => one_all (Pc.cells_one _) u hu) (by simp only [maxLen]; first | omega | (simp only [List.length_append, List.length_cons, List.length_nil]; omega)) (by first | omega | (simp only [List.length_append, List.length_cons, List.length_nil]; omega)) rfl fun sv4 Hr4 hr4 => ?_
    refine ok_perm (@List.perm_append_comm _ _ [_, _]) ?_
    have hq4 : SRow 31 10 sv4 ((Con.rright.rrights (Con.atom c) (c.parts.take i)) ++ [(Pc.mk 1 (Con.atom c) [] (Con.atom x1) [] [] [] 0 0 0)]).length (((Con.rright.rrights (Con.atom c) (c.parts.take i)) ++ [(Pc.mk 1 (Con.atom c) [] (Con.atom x1) [] [] [] 0 0 0)]).flatMap Pc.cells) Hr4 := by rw [List.length_append, List.flatMap_append]; simpa using hr4
    refine ops_nil (fin_inv rfl (any_next (fun _ a b => ⟨Vw.sat.sub (a.perm (pf_cons pf_here)), b⟩) ?_))
    refine any_take 12 rfl (by kernel_rfl) (by kernel_rfl) (by kernel_rfl) (yld_assign rfl) rfl (fun _ a b => ⟨Vw.sat.sub (a.perm (pf_cons pf_here)), b⟩) ?_
    refine any_done (by kernel_rfl) ?_
    refine fin_next rfl (run_region (ops_val (yld_move rfl) rfl (ops_val (yld_field Tryz.runUnderlying38 rfl rfl rfl Tryz.sizeOf36) rfl ?_)))
    refine ops_val (yld_load 1 Tryz.isAgg36 rfl rfl rfl) rfl ?_
    refine ops_val (yld_move rfl) rfl (ops_val (yld_indexR Tryz.runUnderlying36 Tryz.sizeOf38 rfl rfl (fun v _ h => row_adr (n := 5) Con.cells_len (by decide) (by exact ((Con.mem_iff c v).1 h.1).1) hx1) (by omega) (by first | omega | (simp; done))) rfl ?_)
    refine ops_val (yld_loadRS (ad := (Con.ad c)) (us := Con.cells x1) Tryz.isAgg38 Tryz.sizeOf38 rfl (fun v _ h => by exact ((Con.mem_iff c v).1 h.1).1) (Con.cells_len _) (row_cells Con.cells_len hx1)) rfl ?_
    refine ops_call (ih x1 (by have := Con.sz_part hmx1; omega) (Con.ok_part hok hmx1) (Con.check_part hc hmx1)) rfl pf_nil (fun v _ h => by exact ⟨(Con.mem_part (c := c) h.1 hmx1), trivial⟩) rfl fun ⟨⟨sl2, HL2⟩, hl2⟩ => ?_
    dsimp only
    refine ok_giveRowN hl2 pf_hereO fun al2 cl2 hsl2 hca2 hcb2 hcc2 => ?_
    subst hsl2
    refine ops_appendR (news := List.flatMap Pc.cells (Con.rright x1)) eltPc hq4 rfl rfl hcc2 hca2 (pf_cons (pf_cons pf_end)) (by rw [fm_len Pc.cells 10 Pc.cells_len]) (fun v _ h => by exact h.1) (fun u hu => one_pcs hu) (by simp only [maxLen]; first | omega | (simp only [List.length_append, List.length_cons, List.length_nil]; omega)) (by first | omega | (simp only [List.length_append, List.length_cons, List.length_nil]; omega)) rfl fun sv5 Hr5 hr5 => ?_
    refine ok_perm (@List.perm_append_comm _ _ [_, _]) ?_
    have hq5 : SRow 31 10 sv5 (((Con.rright.rrights (Con.atom c) (c.parts.take i)) ++ [(Pc.mk 1 (Con.atom c) [] (Con.atom x1) [] [] [] 0 0 0)]) ++ (Con.rright x1)).length ((((Con.rright.rrights (Con.atom c) (c.parts.take i)) ++ [(Pc.mk 1 (Con.atom c) [] (Con.atom x1) [] [] [] 0 0 0)]) ++ (Con.rright x1)).flatMap Pc.cells) Hr5 := by rw [List.length_append, List.flatMap_append]; simpa using hr5
    refine ops_val (yld_assign rfl) rfl (ops_nil (fin_next rfl (run_region (ops_val (yld_move rfl) rfl (ops_val (yld_arith rfl rfl rfl (wrap64 (by omega) (by omega))) rfl ?_)))))
    refine ops_val (yld_assign rfl) rfl (ops_nil (fin_inv rfl ?_))
    exact ok_again ⟨(i + 1, sv5, Hr5), hlx1, by dsimp only; rw [Con.rrights_step _ hx1]; exact hq5⟩ (by dsimp only; omega) ⟨rfl, rfl, rfl, trivial⟩ (pf_takeB (pf_cons pf_here) (pf_cons pf_end)) (fun _ _ h => h.2)

theorem rSub_c (a c : Str) : Tri Tryz.prog 83 #[str a, str c] [] [] (fun b : Nat => .slice (some ⟨b, 0, none⟩) 1 1) (fun _ => []) (fun b => [rowF (some ⟨b, 0, none⟩) (List.flatMap Pc.cells [(Pc.mk 1 a [] c [] [] [] 0 0 0)])]) := by
  refine tri_of_body Tryz.func83 rfl rfl Tryz.ntmps83 rfl fun v0 => ?_
  refine run_seq (run_region (ops_val (yld_assign rfl) rfl (ops_nil (fin_next rfl (run_seq (run_region (ops_val (yld_move rfl) rfl ?_)))))))
  refine ops_val (yld_move rfl) rfl (ops_val (yld_struct strt31 rfl rfl) rfl ?_)
  refine ops_slit Tryz.runUnderlying25 Tryz.sizeOf31 Tryz.zeroValue31 rfl rfl rfl rfl rfl rfl fun b1 => ?_
  refine ok_giveR (List.flatMap Pc.cells [(Pc.mk 1 a [] c [] [] [] 0 0 0)]) pf_here rfl ?_
  refine ops_val (yld_assign rfl) rfl (ops_nil (fin_next rfl (run_ret ?_)))
  exact ret1 Tryz.results83 b1 rfl pf_nil (fun v _ h => ⟨h.1, trivial⟩)

theorem rPersonT_c (a : Str) (ha : a.length ≤ 140737488351232) : Fn0 Tryz.prog 85 #[str a] (str ([123] ++ a ++ [125])) := by
  refine tri_of_body Tryz.func85 rfl rfl Tryz.ntmps85 rfl fun v0 => ?_
  refine run_seq (run_region (ops_val (yld_assign rfl) rfl (ops_nil (fin_next rfl (run_seq (run_region (ops_val (yld_move rfl) rfl ?_)))))))
  refine ops_val (yld_cat rfl rfl (by first | omega | (simp only [List.length_append, List.length_cons, List.length_nil]; omega))) rfl ?_
  refine ops_val (yld_cat rfl rfl (by first | omega | (simp only [List.length_append, List.length_cons, List.length_nil]; omega))) rfl ?_
  refine ops_val (yld_assign rfl) rfl (ops_nil (fin_next rfl (run_ret ?_)))
  exact ret1 Tryz.results85 () rfl pf_nil (fun _ _ _ => trivial)

end Go.Proofs.YtoafjmalfclpoaaGreatDoor

/-
  My own contracts.
-/
namespace Go.Proofs.YtoafjmalfclpoaaGreatDoor
open Go Go.Sx Go.Proofs
set_option linter.unusedVariables false
attribute [local irreducible] Code.wp wpList wpAnyH

open Go.Vs
theorem rChain_c (x : Ax) (hok : x.ok) (hc : x.check = 0) (hk : x.kind = 6) : Tri Tryz.prog 84 #[Ax.val x] [] [Ax.memF x] (fun y : {y : Option Addr × Nat // (Ax.chainL (Ax.role x) (List.drop 1 (Ax.roles x)) ((Ax.roles x).headD [])).length ≤ y.2 ∧ y.2 ≤ maxLen ∧ (y.1 = none → y.2 = 0)} => .slice y.1.1 (Ax.chainL (Ax.role x) (List.drop 1 (Ax.roles x)) ((Ax.roles x).headD [])).length y.1.2) (fun _ => []) (fun y => [rowF y.1.1 (List.flatMap Pc.cells (Ax.chainL (Ax.role x) (List.drop 1 (Ax.roles x)) ((Ax.roles x).headD [])))]) := by
 refine tri_of_body Tryz.func84 rfl rfl Tryz.ntmps84 rfl fun v0 => ?_
 have G := Ax.good_of hc
 have h24 := G.chain hk
 have hlr := plain_lt (G.role (by omega))
 refine run_seq (run_region (ops_box rfl rfl fun b1 => ?_))
 refine ops_val (yld_assign rfl) rfl (ops_nil (fin_next rfl (run_seq (run_region (ops_val (yld_assign rfl) rfl (ops_nil (fin_next rfl ?_)))))))
 refine run_seq ?_
 have hlx0 : 0 < List.length (Ax.roles x) := by omega
 obtain ⟨x0, hx0⟩ : ∃ e0, (Ax.roles x)[0]? = some e0 := ⟨_, List.getElem?_eq_getElem hlx0⟩
 have hmx0 : x0 ∈ (Ax.roles x) := List.mem_of_getElem? hx0
 have hl0 := plain_lt (G.roles x0 hmx0)
 refine run_region (ops_val (yld_field Tryz.runUnderlying41 rfl rfl rfl Tryz.sizeOf39) rfl ?_)
 refine ops_val (yld_load 0 Tryz.isAgg39 rfl rfl rfl) rfl ?_
 refine ops_val (yld_indexR Tryz.runUnderlying39 Tryz.sizeOf9 rfl rfl (fun v _ h => row_adr (n := 1) strC_len (by decide) (by exact h.1.2.2) hx0) (by omega) (by first | omega | (simp; done))) rfl ?_
 refine ops_val (yld_loadR (ad := (Ax.ad x)) Tryz.isAgg9 rfl (fun v _ h => by exact h.1.2.2) (row_cells strC_len hx0 0 _ rfl)) rfl ?_
 refine ops_val (yld_assign rfl) rfl (ops_nil (fin_next rfl (run_seq (run_seq (run_region (ops_val (yld_assign rfl) rfl (ops_nil ?_)))))))
 refine fin_next rfl (run_block (ok_fr [(1, .pointer (some ⟨b1, 0, none⟩)), (3, .slice none 0 0), (4, str x0), (5, .int .i64 ((0 + 1 : Nat) : Int))] ⟨rfl, rfl, rfl, rfl, trivial⟩ ?_))
 refine run_loop (ι := {y : Nat × Str × List Pc × Value × Hp // y.1 + 1 ≤ x.roles.length ∧ y.2.1.length ≤ 30 * (y.1 + 1) ∧ y.2.2.1.length = y.1 ∧ y.2.2.1 ++ Ax.chainL (Ax.role x) (List.drop (y.1 + 1) (Ax.roles x)) y.2.1 = (Ax.chainL (Ax.role x) (List.drop 1 (Ax.roles x)) x0) ∧ SRow 31 10 y.2.2.2.1 y.2.2.1.length (y.2.2.1.flatMap Pc.cells) y.2.2.2.2}) (fun y => [(1, .pointer (some ⟨b1, 0, none⟩)), (3, y.1.2.2.2.1), (4, str y.1.2.1), (5, .int .i64 ((y.1.1 + 1 : Nat) : Int))]) (fun y => _ :: y.1.2.2.2.2) (fun _ => _) (fun y => x.roles.length - y.1.1) ⟨(0, x0, [], .slice none 0 0, []), by dsimp only; omega, by dsimp only; omega, rfl, rfl, SRow.nil _ _⟩ ?_
 rintro ⟨⟨q, f, L, sv, Hr⟩, hq, hfl, hLl, hch, hrow⟩
 dsimp only at hq hfl hLl hch hrow
 dsimp only
 refine ok_fr [(1, .pointer (some ⟨b1, 0, none⟩)), (3, sv), (4, str f), (5, .int .i64 ((q + 1 : Nat) : Int))] ⟨rfl, rfl, rfl, rfl, trivial⟩ ?_
 refine run_seq (run_seq (run_region (ops_val (yld_move rfl) rfl (ops_val (yld_field Tryz.runUnderlying41 rfl rfl rfl Tryz.sizeOf39) rfl ?_))))
 refine ops_val (yld_load 0 Tryz.isAgg39 rfl rfl rfl) rfl ?_
 refine ops_val (yld_lenS Tryz.runUnderlying39 rfl) rfl ?_
 refine ops_valB (yld_lss rfl rfl) rfl fun r1 hr1 => ?_
 refine ops_nil (fin_next rfl ?_)
 cases r1
 ·
  replace hr1 := of_decide_eq_false hr1
  refine run_cond_f rfl (run_exit rfl (fin_next rfl (run_seq (run_region (ops_val (yld_move rfl) rfl (ops_val (yld_assign rfl) rfl (ops_nil ?_)))))))
  refine fin_next rfl (run_ret ?_)
  have hde : List.drop (q + 1) (Ax.roles x) = [] := List.drop_of_length_le (by omega)
  rw [hde] at hch
  have hLe : L = Ax.chainL (Ax.role x) (List.drop 1 (Ax.roles x)) ((Ax.roles x).headD []) := by rw [headD_of hx0, ← hch]; simp [Ax.chainL]
  rw [hLe] at hrow
  refine ok_giveRowN hrow (pf_cons pf_end) fun ad2 cp2 hsv hc1 hc2 hc3 => ?_
  exact ret1 Tryz.results84 ⟨(ad2, cp2), hc1, hc2, hc3⟩ (get_val rfl hsv) pf_nil (fun v _ h => ⟨h.1, trivial⟩)
 ·
  replace hr1 := of_decide_eq_true hr1
  have hlx1 : (q + 1 : Nat) < List.length (Ax.roles x) := by omega
  obtain ⟨x1, hx1⟩ : ∃ e0, (Ax.roles x)[(q + 1 : Nat)]? = some e0 := ⟨_, List.getElem?_eq_getElem hlx1⟩
  have hmx1 : x1 ∈ (Ax.roles x) := List.mem_of_getElem? hx1
  have hl1 := plain_lt (G.roles x1 hmx1)
  refine run_cond_t rfl (run_skip (fin_next rfl (run_seq (run_block (run_seq (run_region (ops_val (yld_move rfl) rfl ?_)))))))
  refine ops_val (yld_cat rfl rfl (by first | omega | (simp only [List.length_append, List.length_cons, List.length_nil]; omega))) rfl ?_
  refine ops_val (yld_field Tryz.runUnderlying41 rfl rfl rfl Tryz.sizeOf39) rfl ?_
  refine ops_val (yld_load 0 Tryz.isAgg39 rfl rfl rfl) rfl ?_
  refine ops_val (yld_move rfl) rfl (ops_val (yld_indexR Tryz.runUnderlying39 Tryz.sizeOf9 rfl rfl (fun v _ h => row_adr (n := 1) strC_len (by decide) (by exact h.1.2.2) hx1) (by omega) (by first | omega | (simp; done))) rfl ?_)
  refine ops_val (yld_loadR (ad := (Ax.ad x)) Tryz.isAgg9 rfl (fun v _ h => by exact h.1.2.2) (row_cells strC_len hx1 0 _ rfl)) rfl ?_
  refine ops_val (yld_cat rfl rfl (by first | omega | (simp only [List.length_append, List.length_cons, List.length_nil]; omega))) rfl ?_
  refine ops_val (yld_assign rfl) rfl (ops_nil (fin_next rfl (run_seq (run_seq (run_region (ops_val (yld_move rfl) rfl (ops_val (yld_field Tryz.runUnderlying41 rfl rfl rfl Tryz.sizeOf39) rfl ?_)))))))
  refine ops_val (yld_load 0 Tryz.isAgg39 rfl rfl rfl) rfl ?_
  refine ops_val (yld_lenS Tryz.runUnderlying39 rfl) rfl ?_
  refine ops_val (yld_arith rfl rfl rfl (wrap64 (by omega) (by omega))) rfl ?_
  refine ops_valB (yld_eql rfl rfl) rfl fun r2 hr2 => ?_
  refine ops_nil (fin_next rfl ?_)
  cases r2
  ·
   replace hr2 := ne_of_beq_false hr2
   refine run_cond_f rfl (run_skip (fin_next rfl (run_seq (run_region (ops_val (yld_move rfl) rfl (ops_val (yld_move rfl) rfl (ops_val (yld_field Tryz.runUnderlying41 rfl rfl rfl Tryz.sizeOf39) rfl ?_)))))))
   refine ops_val (yld_load 0 Tryz.isAgg39 rfl rfl rfl) rfl ?_
   refine ops_val (yld_move rfl) rfl (ops_val (yld_indexR Tryz.runUnderlying39 Tryz.sizeOf9 rfl rfl (fun v _ h => row_adr (n := 1) strC_len (by decide) (by exact h.1.2.2) hx1) (by omega) (by first | omega | (simp; done))) rfl ?_)
   refine ops_val (yld_loadR (ad := (Ax.ad x)) Tryz.isAgg9 rfl (fun v _ h => by exact h.1.2.2) (row_cells strC_len hx1 0 _ rfl)) rfl ?_
   refine ops_val (yld_move rfl) rfl (ops_val (yld_struct strt31 rfl rfl) rfl ?_)
   refine ops_slit Tryz.runUnderlying25 Tryz.sizeOf31 Tryz.zeroValue31 rfl rfl rfl rfl rfl rfl fun b2 => ?_
   refine ops_append (news := Pc.cells (Pc.mk 6 [] [] [] f x1 ((f ++ [46]) ++ x1) 0 0 0)) eltPc hrow rfl rfl (pf_cons (pf_cons pf_end)) rfl (own_news 0 rfl) (fun u hu => one_all (Pc.cells_one _) u hu) (by simp only [maxLen]; omega) (by omega) rfl fun sv1 Hr1 hr1 => ?_
   refine ok_perm (@List.perm_append_comm _ _ [_, _]) ?_
   have hq1 : SRow 31 10 sv1 (L ++ [(Pc.mk 6 [] [] [] f x1 ((f ++ [46]) ++ x1) 0 0 0)]).length ((L ++ [(Pc.mk 6 [] [] [] f x1 ((f ++ [46]) ++ x1) 0 0 0)]).flatMap Pc.cells) Hr1 := by rw [List.length_append, List.flatMap_append]; simpa using hr1
   refine ops_val (yld_assign rfl) rfl (ops_nil (fin_next rfl (run_region (ops_val (yld_move rfl) rfl (ops_val (yld_assign rfl) rfl (ops_nil (fin_next rfl ?_)))))))
   refine run_region (ops_val (yld_move rfl) rfl (ops_val (yld_arith rfl rfl rfl (wrap64 (by omega) (by omega))) rfl ?_))
   refine ops_val (yld_assign rfl) rfl (ops_nil (fin_inv rfl ?_))
   have hd : List.drop (q + 1) (Ax.roles x) = x1 :: List.drop (q + 2) (Ax.roles x) := drop_of hx1
   have hif : (if List.drop (q + 2) (Ax.roles x) = [] then Ax.role x else f ++ [46] ++ x1) = (f ++ [46]) ++ x1 := by rw [if_neg (fun e => by have := congrArg List.length e; rw [List.length_drop] at this; simp only [List.length_nil] at this; omega)]
   rw [hd] at hch
   simp only [Ax.chainL] at hch
   rw [hif] at hch
   exact ok_again ⟨(q + 1, (f ++ [46]) ++ x1, (L ++ [(Pc.mk 6 [] [] [] f x1 ((f ++ [46]) ++ x1) 0 0 0)]), sv1, Hr1), by dsimp only; omega, by dsimp only; first | omega | (simp only [List.length_append, List.length_cons, List.length_nil]; omega), by dsimp only; rw [List.length_append, hLl]; rfl, by dsimp only; rw [List.append_assoc]; exact hch, hq1⟩ (by dsimp only; omega) ⟨rfl, rfl, rfl, rfl, trivial⟩ (pf_takeB (pf_cons pf_here) (pf_cons pf_end)) (fun _ _ h => h)
  ·
   replace hr2 := eq_of_beq hr2
   refine run_cond_t rfl (run_region (ops_val (yld_field Tryz.runUnderlying41 rfl rfl rfl Tryz.sizeOf9) rfl ?_))
   refine ops_val (yld_load 0 Tryz.isAgg9 rfl rfl rfl) rfl ?_
   refine ops_val (yld_assign rfl) rfl (ops_nil (fin_next rfl (run_seq (run_region (ops_val (yld_move rfl) rfl (ops_val (yld_move rfl) rfl (ops_val (yld_field Tryz.runUnderlying41 rfl rfl rfl Tryz.sizeOf39) rfl ?_)))))))
   refine ops_val (yld_load 0 Tryz.isAgg39 rfl rfl rfl) rfl ?_
   refine ops_val (yld_move rfl) rfl (ops_val (yld_indexR Tryz.runUnderlying39 Tryz.sizeOf9 rfl rfl (fun v _ h => row_adr (n := 1) strC_len (by decide) (by exact h.1.2.2) hx1) (by omega) (by first | omega | (simp; done))) rfl ?_)
   refine ops_val (yld_loadR (ad := (Ax.ad x)) Tryz.isAgg9 rfl (fun v _ h => by exact h.1.2.2) (row_cells strC_len hx1 0 _ rfl)) rfl ?_
   refine ops_val (yld_move rfl) rfl (ops_val (yld_struct strt31 rfl rfl) rfl ?_)
   refine ops_slit Tryz.runUnderlying25 Tryz.sizeOf31 Tryz.zeroValue31 rfl rfl rfl rfl rfl rfl fun b3 => ?_
   refine ops_append (news := Pc.cells (Pc.mk 6 [] [] [] f x1 (Ax.role x) 0 0 0)) eltPc hrow rfl rfl (pf_cons (pf_cons pf_end)) rfl (own_news 0 rfl) (fun u hu => one_all (Pc.cells_one _) u hu) (by simp only [maxLen]; omega) (by omega) rfl fun sv2 Hr2 hr2 => ?_
   refine ok_perm (@List.perm_append_comm _ _ [_, _]) ?_
   have hq2 : SRow 31 10 sv2 (L ++ [(Pc.mk 6 [] [] [] f x1 (Ax.role x) 0 0 0)]).length ((L ++ [(Pc.mk 6 [] [] [] f x1 (Ax.role x) 0 0 0)]).flatMap Pc.cells) Hr2 := by rw [List.length_append, List.flatMap_append]; simpa using hr2
   refine ops_val (yld_assign rfl) rfl (ops_nil (fin_next rfl (run_region (ops_val (yld_move rfl) rfl (ops_val (yld_assign rfl) rfl (ops_nil (fin_next rfl ?_)))))))
   refine run_region (ops_val (yld_move rfl) rfl (ops_val (yld_arith rfl rfl rfl (wrap64 (by omega) (by omega))) rfl ?_))
   refine ops_val (yld_assign rfl) rfl (ops_nil (fin_inv rfl ?_))
   have hd : List.drop (q + 1) (Ax.roles x) = x1 :: List.drop (q + 2) (Ax.roles x) := drop_of hx1
   have hif : (if List.drop (q + 2) (Ax.roles x) = [] then Ax.role x else f ++ [46] ++ x1) = (Ax.role x) := by rw [if_pos (List.drop_of_length_le (by omega))]
   rw [hd] at hch
   simp only [Ax.chainL] at hch
   rw [hif] at hch
   exact ok_again ⟨(q + 1, (Ax.role x), (L ++ [(Pc.mk 6 [] [] [] f x1 (Ax.role x) 0 0 0)]), sv2, Hr2), by dsimp only; omega, by dsimp only; first | omega | (simp only [List.length_append, List.length_cons, List.length_nil]; omega), by dsimp only; rw [List.length_append, hLl]; rfl, by dsimp only; rw [List.append_assoc]; exact hch, hq2⟩ (by dsimp only; omega) ⟨rfl, rfl, rfl, rfl, trivial⟩ (pf_takeB (pf_cons pf_here) (pf_cons pf_end)) (fun _ _ h => h)

theorem fl_len {ls : List Pw} {i k : Nat} {w : Pw} (h : ls[i]? = some w) : (List.flatMap Pw.l (List.take i ls) ++ List.take k w.l).length ≤ (List.flatMap Pw.l ls).length := by
  have hi := (List.getElem?_eq_some_iff.1 h).1
  have e : ls = List.take i ls ++ (w :: List.drop (i + 1) ls) := by rw [← drop_of h, List.take_append_drop]
  have e2 : List.flatMap Pw.l ls = List.flatMap Pw.l (List.take i ls) ++ (w.l ++ List.flatMap Pw.l (List.drop (i + 1) ls)) := by
    conv => lhs; rw [e]
    rw [List.flatMap_append, List.flatMap_cons]
  rw [e2]
  simp only [List.length_append, List.length_take]
  omega
theorem fl_take (ls : List Pw) (i : Nat) : (List.flatMap Pw.l (List.take i ls)).length ≤ (List.flatMap Pw.l ls).length := by
  have e : List.flatMap Pw.l ls = List.flatMap Pw.l (List.take i ls) ++ List.flatMap Pw.l (List.drop i ls) := by rw [← List.flatMap_append, List.take_append_drop]
  rw [e, List.length_append]; omega
theorem fl_step {ls : List Pw} {i : Nat} {w : Pw} (h : ls[i]? = some w) : List.flatMap Pw.l (List.take (i + 1) ls) = List.flatMap Pw.l (List.take i ls) ++ w.l := by
  rw [List.take_add_one, h, Option.toList_some, List.flatMap_append]; simp
theorem insA_step (frm : Int) {A l : List Pc} {k : Nat} {y : Pc} (h : l[k]? = some y) : insA frm [] (A ++ List.take (k + 1) l) = ins frm (insA frm [] (A ++ List.take k l)) y := by
  rw [List.take_add_one, h, Option.toList_some, ← List.append_assoc, insA_append, insA_one]

theorem rJoined_c (ls : List Pw) (ad : Option Addr) (cap : Nat) (frm : Int) (hl : ls.length ≤ 100) (ht : (List.flatMap Pw.l ls).length ≤ 100000) : Tri Tryz.prog 80 #[.slice ad (List.length ls) cap, .int .i64 frm] [] [rowF ad (List.flatMap Pw.cells ls), pwF ls] (fun y : {y : Option Addr × Nat // (insA frm [] (List.flatMap Pw.l ls)).length ≤ y.2 ∧ y.2 ≤ maxLen ∧ (y.1 = none → y.2 = 0)} => .slice y.1.1 (insA frm [] (List.flatMap Pw.l ls)).length y.1.2) (fun _ => []) (fun y => [rowF y.1.1 (List.flatMap Pc.cells (insA frm [] (List.flatMap Pw.l ls)))]) := by
 refine tri_of_body Tryz.func80 rfl rfl Tryz.ntmps80 rfl fun v0 => ?_
 refine run_seq (run_region (ops_val (yld_assign rfl) rfl (ops_nil (fin_next rfl (run_seq (run_region (ops_val (yld_assign rfl) rfl ?_)))))))
 refine ops_nil (fin_next rfl (run_seq (run_seq (run_region (ops_val (yld_assign rfl) rfl (ops_nil (fin_next rfl ?_)))))))
 refine run_block (ok_fr [(0, .slice ad (List.length ls) cap), (1, .int .i64 frm), (5, .slice none 0 0), (6, .int .i64 ((0 : Nat) : Int))] ⟨rfl, rfl, rfl, rfl, trivial⟩ ?_)
 refine run_loop (ι := {y : Nat × Value × Hp // y.1 ≤ ls.length ∧ SRow 31 10 y.2.1 (insA frm [] (List.flatMap Pw.l (List.take y.1 ls))).length ((insA frm [] (List.flatMap Pw.l (List.take y.1 ls))).flatMap Pc.cells) y.2.2}) (fun y => [(0, .slice ad (List.length ls) cap), (1, .int .i64 frm), (5, y.1.2.1), (6, .int .i64 (y.1.1 : Int))]) (fun y => y.1.2.2) (fun _ => _) (fun y => ls.length - y.1.1) ⟨(0, .slice none 0 0, []), by simp, SRow.nil _ _⟩ ?_
 rintro ⟨⟨i, sv, Hr⟩, hi, hrow⟩
 dsimp only at hi hrow
 dsimp only
 refine ok_fr [(0, .slice ad (List.length ls) cap), (1, .int .i64 frm), (5, sv), (6, .int .i64 (i : Int))] ⟨rfl, rfl, rfl, rfl, trivial⟩ ?_
 refine run_seq (run_seq (run_region (ops_val (yld_move rfl) rfl (ops_val (yld_move rfl) rfl (ops_val (yld_lenS Tryz.runUnderlying48 rfl) rfl ?_)))))
 refine ops_valB (yld_lss rfl rfl) rfl fun r1 hr1 => ?_
 refine ops_nil (fin_next rfl ?_)
 cases r1
 ·
  replace hr1 := of_decide_eq_false hr1
  refine run_cond_f rfl (run_exit rfl (fin_next rfl (run_seq (run_region (ops_val (yld_move rfl) rfl (ops_val (yld_assign rfl) rfl (ops_nil ?_)))))))
  refine fin_next rfl (run_ret ?_)
  have et : List.take i ls = ls := List.take_of_length_le (by omega)
  rw [et] at hrow
  refine ok_giveRowN hrow pf_end fun ad2 cp2 hsv hc1 hc2 hc3 => ?_
  exact ret1 Tryz.results80 ⟨(ad2, cp2), hc1, hc2, hc3⟩ (get_val rfl hsv) pf_nil (fun v _ h => ⟨h.1, trivial⟩)
 ·
  replace hr1 := of_decide_eq_true hr1
  have hlw : i < List.length ls := by omega
  obtain ⟨w, hw⟩ : ∃ e0, ls[i]? = some e0 := ⟨_, List.getElem?_eq_getElem hlw⟩
  have hmw : w ∈ ls := List.mem_of_getElem? hw
  refine run_cond_t rfl (run_skip (fin_next rfl (run_seq (run_block (run_seq (run_region (ops_val (yld_assign rfl) rfl ?_)))))))
  refine ops_nil (fin_next rfl (run_block (ok_fr [(0, .slice ad (List.length ls) cap), (1, .int .i64 frm), (5, sv), (6, .int .i64 (i : Int)), (7, .int .i64 ((0 : Nat) : Int))] ⟨rfl, rfl, rfl, rfl, rfl, trivial⟩ ?_)))
  refine run_loop (ι := {y : Nat × Value × Hp // y.1 ≤ (Pw.l w).length ∧ SRow 31 10 y.2.1 (insA frm [] ((List.flatMap Pw.l (List.take i ls)) ++ List.take y.1 (Pw.l w))).length ((insA frm [] ((List.flatMap Pw.l (List.take i ls)) ++ List.take y.1 (Pw.l w))).flatMap Pc.cells) y.2.2}) (fun y => [(0, .slice ad (List.length ls) cap), (1, .int .i64 frm), (5, y.1.2.1), (6, .int .i64 (i : Int)), (7, .int .i64 (y.1.1 : Int))]) (fun y => y.1.2.2) (fun _ => _) (fun y => (Pw.l w).length - y.1.1) ⟨(0, sv, Hr), by simp, by simpa using hrow⟩ ?_
  rintro ⟨⟨k, sw, Hw⟩, hk, hrw⟩
  dsimp only at hk hrw
  dsimp only
  have hfl := fl_len (k := k) hw
  have hil := insA_len frm ((List.flatMap Pw.l (List.take i ls)) ++ List.take k (Pw.l w)) []
  have hwl := fl_len (k := (Pw.l w).length) hw
  rw [List.length_append, List.take_length] at hwl
  rw [List.length_nil] at hil
  generalize hJ : (insA frm [] ((List.flatMap Pw.l (List.take i ls)) ++ List.take k (Pw.l w))) = J at hrw hil
  refine ok_fr [(0, .slice ad (List.length ls) cap), (1, .int .i64 frm), (5, sw), (6, .int .i64 (i : Int)), (7, .int .i64 (k : Int))] ⟨rfl, rfl, rfl, rfl, rfl, trivial⟩ ?_
  refine run_seq (run_seq (run_region (ops_val (yld_move rfl) rfl (ops_val (yld_move rfl) rfl (ops_val (yld_move rfl) rfl (ops_val (yld_indexR Tryz.runUnderlying48 Tryz.sizeOf25 rfl rfl (fun v _ h => row_adr (n := 1) Pw.cells_len (by decide) (by exact h.1) hw) (by omega) (by first | omega | (simp; done))) rfl ?_))))))
  refine ops_val (yld_loadR (ad := ad) Tryz.isAgg25 rfl (fun v _ h => by exact h.1) (row_cells Pw.cells_len hw 0 _ rfl)) rfl ?_
  refine ops_val (yld_lenS Tryz.runUnderlying25 rfl) rfl ?_
  refine ops_valB (yld_lss rfl rfl) rfl fun r2 hr2 => ?_
  refine ops_nil (fin_next rfl ?_)
  cases r2
  ·
   replace hr2 := of_decide_eq_false hr2
   refine run_cond_f rfl (run_exit rfl (fin_next rfl (run_region (ops_val (yld_move rfl) rfl (ops_val (yld_arith rfl rfl rfl (wrap64 (by omega) (by omega))) rfl ?_)))))
   refine ops_val (yld_assign rfl) rfl (ops_nil (fin_inv rfl ?_))
   exact ok_again ⟨(i + 1, sw, Hw), hlw, by dsimp only; rw [fl_step hw]; have := hrw; rw [← hJ, List.take_of_length_le (show (Pw.l w).length ≤ k by omega)] at this; exact this⟩ (by dsimp only; omega) ⟨rfl, rfl, rfl, rfl, trivial⟩ pf_end (fun _ _ h => h)
  ·
   replace hr2 := of_decide_eq_true hr2
   have hly : k < List.length (Pw.l w) := by omega
   obtain ⟨y, hy⟩ : ∃ e0, (Pw.l w)[k]? = some e0 := ⟨_, List.getElem?_eq_getElem hly⟩
   have hmy : y ∈ (Pw.l w) := List.mem_of_getElem? hy
   refine run_cond_t rfl (run_skip (fin_next rfl (run_seq (run_block (run_seq (run_region (ops_val (yld_move rfl) rfl ?_)))))))
   refine ops_val (yld_move rfl) rfl (ops_val (yld_indexR Tryz.runUnderlying48 Tryz.sizeOf25 rfl rfl (fun v _ h => row_adr (n := 1) Pw.cells_len (by decide) (by exact h.1) hw) (by omega) (by first | omega | (simp; done))) rfl ?_)
   refine ops_val (yld_loadR (ad := ad) Tryz.isAgg25 rfl (fun v _ h => by exact h.1) (row_cells Pw.cells_len hw 0 _ rfl)) rfl ?_
   refine ops_val (yld_move rfl) rfl (ops_val (yld_indexR Tryz.runUnderlying25 Tryz.sizeOf31 rfl rfl (fun v _ h => row_adr (n := 10) Pc.cells_len (by decide) (by exact (h.2.1 w hmw)) hy) (by omega) (by first | omega | (simp; done))) rfl ?_)
   refine ops_val (yld_loadRS (ad := (Pw.ad w)) (us := Pc.cells y) Tryz.isAgg31 Tryz.sizeOf31 rfl (fun v _ h => by exact (h.2.1 w hmw)) (Pc.cells_len _) (row_cells Pc.cells_len hy)) rfl ?_
   refine ops_alloc Tryz.zeroValue31 rfl fun b1 => ?_
   refine ops_store 0 Tryz.sizeOf31 rfl rfl rfl rfl rfl rfl ?_
   refine ops_nil (fin_next rfl (run_seq (run_region (ops_val (yld_move rfl) rfl (ops_val (yld_field Tryz.runUnderlying31 rfl rfl rfl Tryz.sizeOf3) rfl ?_)))))
   refine ops_store 0 Tryz.sizeOf3 rfl rfl rfl rfl rfl rfl ?_
   refine ops_nil (fin_next rfl (run_seq (run_region (ops_val (yld_assign rfl) rfl (ops_nil (fin_next rfl (run_seq ?_)))))))
   refine run_seq (run_region (ops_val (yld_assign rfl) rfl (ops_nil (fin_next rfl (run_block (ok_fr [(0, .slice ad (List.length ls) cap), (1, .int .i64 frm), (5, sw), (6, .int .i64 (i : Int)), (7, .int .i64 (k : Int)), (8, .pointer (some ⟨b1, 0, none⟩)), (9, .bool false), (10, .int .i64 ((0 : Nat) : Int))] ⟨rfl, rfl, rfl, rfl, rfl, rfl, rfl, rfl, trivial⟩ ?_))))))
   refine run_loop (ι := {z : Nat × Bool // z.1 ≤ J.length ∧ z.2 = (J.take z.1).any (fun u => decide (u = (Pc.mk (Pc.kind y) (Pc.a y) (Pc.b y) (Pc.c y) (Pc.r y) (Pc.s y) (Pc.t y) (Pc.lo y) (Pc.hi y) frm)))}) (fun z => [(0, .slice ad (List.length ls) cap), (1, .int .i64 frm), (5, sw), (6, .int .i64 (i : Int)), (7, .int .i64 (k : Int)), (8, .pointer (some ⟨b1, 0, none⟩)), (9, .bool z.1.2), (10, .int .i64 (z.1.1 : Int))]) (fun _ => _) (fun _ => _) (fun z => J.length - z.1.1) ⟨(0, false), by simp, by simp⟩ ?_
   rintro ⟨⟨n, m⟩, hn⟩
   dsimp only at hn
   obtain ⟨hn1, hnm⟩ := hn
   refine ok_fr [(0, .slice ad (List.length ls) cap), (1, .int .i64 frm), (5, sw), (6, .int .i64 (i : Int)), (7, .int .i64 (k : Int)), (8, .pointer (some ⟨b1, 0, none⟩)), (9, .bool m), (10, .int .i64 (n : Int))] ⟨rfl, rfl, rfl, rfl, rfl, rfl, rfl, rfl, trivial⟩ ?_
   refine run_seq (run_seq (run_region (ops_val (yld_move rfl) rfl (ops_val (yld_move rfl) rfl (ops_val (yld_lenRow hrw Tryz.runUnderlying25 rfl) rfl ?_)))))
   refine ops_valB (yld_lss rfl rfl) rfl fun r3 hr3 => ?_
   refine ops_val (yld_move rfl) rfl ?_
   cases r3
   ·
    replace hr3 := of_decide_eq_false hr3
    refine ops_no rfl rfl rfl rfl (ops_no rfl rfl rfl rfl (ops_val (yld_pick_f rfl rfl) rfl ?_))
    refine ops_nil (fin_next rfl (run_cond_f rfl (run_exit rfl (fin_next rfl (run_seq (run_region (ops_val (yld_move rfl) rfl ?_)))))))
    refine ops_val (yld_not rfl) rfl ?_
    refine ops_nil (fin_next rfl ?_)
    cases m
    ·
     have hin : ¬ (Pc.mk (Pc.kind y) (Pc.a y) (Pc.b y) (Pc.c y) (Pc.r y) (Pc.s y) (Pc.t y) (Pc.lo y) (Pc.hi y) frm) ∈ J := fun q => by
      rw [List.take_of_length_le (by omega)] at hnm
      have := List.any_eq_false.1 hnm.symm _ q
      simp at this
     refine run_cond_t rfl (run_region (ops_val (yld_move rfl) rfl (ops_val (yld_loadS 0 Tryz.isAgg31 Tryz.sizeOf31 rfl rfl rfl) rfl ?_)))
     refine ops_slit Tryz.runUnderlying25 Tryz.sizeOf31 Tryz.zeroValue31 rfl rfl rfl rfl rfl rfl fun b2 => ?_
     refine ops_append (news := Pc.cells (Pc.mk (Pc.kind y) (Pc.a y) (Pc.b y) (Pc.c y) (Pc.r y) (Pc.s y) (Pc.t y) (Pc.lo y) (Pc.hi y) frm)) eltPc hrw rfl rfl (pf_cons (pf_cons pf_end)) rfl (own_news 0 rfl) (fun u hu => one_all (Pc.cells_one _) u hu) (by simp only [maxLen]; omega) (by omega) rfl fun sv1 Hr1 hr1 => ?_
     refine ok_perm (@List.perm_append_comm _ _ [_, _]) ?_
     have hq1 : SRow 31 10 sv1 (J ++ [(Pc.mk (Pc.kind y) (Pc.a y) (Pc.b y) (Pc.c y) (Pc.r y) (Pc.s y) (Pc.t y) (Pc.lo y) (Pc.hi y) frm)]).length ((J ++ [(Pc.mk (Pc.kind y) (Pc.a y) (Pc.b y) (Pc.c y) (Pc.r y) (Pc.s y) (Pc.t y) (Pc.lo y) (Pc.hi y) frm)]).flatMap Pc.cells) Hr1 := by rw [List.length_append, List.flatMap_append]; simpa using hr1
     refine ops_val (yld_assign rfl) rfl (ops_nil (fin_next rfl (run_region (ops_val (yld_move rfl) rfl (ops_val (yld_arith rfl rfl rfl (wrap64 (by omega) (by omega))) rfl ?_)))))
     refine ops_val (yld_assign rfl) rfl (ops_nil (fin_inv rfl ?_))
     have hst := insA_step frm (A := (List.flatMap Pw.l (List.take i ls))) hy
     rw [hJ] at hst
     unfold ins at hst
     rw [if_neg hin] at hst
     exact ok_again ⟨(k + 1, sv1, Hr1), hly, by dsimp only; rw [hst]; exact hq1⟩ (by dsimp only; omega) ⟨rfl, rfl, rfl, rfl, rfl, trivial⟩ (pf_cons (pf_cons pf_end)) (fun _ _ h => h)
    ·
     have hin : (Pc.mk (Pc.kind y) (Pc.a y) (Pc.b y) (Pc.c y) (Pc.r y) (Pc.s y) (Pc.t y) (Pc.lo y) (Pc.hi y) frm) ∈ J := by
      obtain ⟨u, hu, he⟩ := List.any_eq_true.1 hnm.symm
      have he2 := of_decide_eq_true he
      subst he2
      exact List.mem_of_mem_take hu
     refine run_cond_f rfl (run_skip (fin_next rfl (run_region (ops_val (yld_move rfl) rfl (ops_val (yld_arith rfl rfl rfl (wrap64 (by omega) (by omega))) rfl ?_)))))
     refine ops_val (yld_assign rfl) rfl (ops_nil (fin_inv rfl ?_))
     have hst := insA_step frm (A := (List.flatMap Pw.l (List.take i ls))) hy
     rw [hJ] at hst
     unfold ins at hst
     rw [if_pos hin] at hst
     exact ok_again ⟨(k + 1, sw, Hw), hly, by dsimp only; rw [hst]; exact hrw⟩ (by dsimp only; omega) ⟨rfl, rfl, rfl, rfl, rfl, trivial⟩ (pf_cons pf_end) (fun _ _ h => h)
   ·
    replace hr3 := of_decide_eq_true hr3
    have hlz : n < J.length := by omega
    obtain ⟨z, hz⟩ : ∃ z, J[n]? = some z := ⟨_, List.getElem?_eq_getElem hlz⟩
    refine ops_yes rfl rfl (ops_val (yld_move rfl) rfl (ops_yes rfl rfl (ops_val (yld_not rfl) rfl ?_)))
    refine ops_val (yld_pick_t rfl rfl) rfl ?_
    refine ops_nil (fin_next rfl ?_)
    cases m
    ·
     refine run_cond_t rfl (run_skip (fin_next rfl (run_seq (run_block ?_))))
     refine run_draw' (by kernel_rfl) ?_
     refine any_take 0 rfl (by kernel_rfl) (by kernel_rfl) (by kernel_rfl) (yld_move rfl) rfl (fun _ a b => ⟨a, b⟩) ?_
     refine any_take 1 rfl (by kernel_rfl) (by kernel_rfl) (by kernel_rfl) (yld_move rfl) rfl (fun _ a b => ⟨a, b⟩) ?_
     refine any_take 2 rfl (by kernel_rfl) (by kernel_rfl) (by kernel_rfl) (yld_ixRow hrw Tryz.runUnderlying25 Tryz.sizeOf31 rfl rfl (by omega) (by omega)) rfl (fun _ a b => ⟨a, b⟩) ?_
     refine any_take 3 rfl (by kernel_rfl) (by kernel_rfl) (by kernel_rfl) (yld_ldRow (us := Pc.cells z) hrw (pf_cons pf_end) Tryz.isAgg31 Tryz.sizeOf31 rfl (Pc.cells_len z) (by decide) (row_cells Pc.cells_len hz)) rfl (fun _ a b => ⟨a, b⟩) ?_
     refine any_take 4 rfl (by kernel_rfl) (by kernel_rfl) (by kernel_rfl) (yld_loadS 0 Tryz.isAgg31 Tryz.sizeOf31 rfl rfl rfl) rfl (fun _ a b => ⟨a, b⟩) ?_
     refine any_takeB 5 rfl (by kernel_rfl) (by kernel_rfl) (by kernel_rfl) (yld_eqlPc (p := z) (q := (Pc.mk (Pc.kind y) (Pc.a y) (Pc.b y) (Pc.c y) (Pc.r y) (Pc.s y) (Pc.t y) (Pc.lo y) (Pc.hi y) frm)) rfl rfl) rfl (fun _ a b => ⟨a, b⟩) fun r4 hr4 => ?_
     refine any_take 6 rfl (by kernel_rfl) (by kernel_rfl) (by kernel_rfl) (yld_assign rfl) rfl (fun _ a b => ⟨a, b⟩) ?_
     refine any_done (by kernel_rfl) ?_
     refine fin_next rfl (run_region (ops_val (yld_move rfl) rfl (ops_val (yld_arith rfl rfl rfl (wrap64 (by omega) (by omega))) rfl ?_)))
     refine ops_val (yld_assign rfl) rfl (ops_nil (fin_inv rfl ?_))
     exact ok_again ⟨(n + 1, r4), hlz, by dsimp only; rw [any_stepG hz, ← hnm, Bool.false_or]; exact hr4.symm⟩ (by dsimp only; omega) ⟨rfl, rfl, rfl, rfl, rfl, rfl, rfl, rfl, trivial⟩ pf_end (fun _ _ h => h)
    ·
     have hin : (Pc.mk (Pc.kind y) (Pc.a y) (Pc.b y) (Pc.c y) (Pc.r y) (Pc.s y) (Pc.t y) (Pc.lo y) (Pc.hi y) frm) ∈ J := by
      obtain ⟨u, hu, he⟩ := List.any_eq_true.1 hnm.symm
      have he2 := of_decide_eq_true he
      subst he2
      exact List.mem_of_mem_take hu
     refine run_cond_f rfl (run_exit rfl (fin_next rfl (run_seq (run_region (ops_val (yld_move rfl) rfl (ops_val (yld_not rfl) rfl ?_))))))
     refine ops_nil (fin_next rfl (run_cond_f rfl (run_skip (fin_next rfl (run_region (ops_val (yld_move rfl) rfl (ops_val (yld_arith rfl rfl rfl (wrap64 (by omega) (by omega))) rfl ?_)))))))
     refine ops_val (yld_assign rfl) rfl (ops_nil (fin_inv rfl ?_))
     have hst := insA_step frm (A := (List.flatMap Pw.l (List.take i ls))) hy
     rw [hJ] at hst
     unfold ins at hst
     rw [if_pos hin] at hst
     exact ok_again ⟨(k + 1, sw, Hw), hly, by dsimp only; rw [hst]; exact hrw⟩ (by dsimp only; omega) ⟨rfl, rfl, rfl, rfl, rfl, trivial⟩ (pf_cons pf_end) (fun _ _ h => h)

end Go.Proofs.YtoafjmalfclpoaaGreatDoor

/-
  My own contracts.
-/
namespace Go.Proofs.YtoafjmalfclpoaaGreatDoor
open Go Go.Sx Go.Proofs
set_option linter.unusedVariables false
attribute [local irreducible] Code.wp wpList wpAnyH

open Go.Vs
theorem rJoined_e (ls : List Pw) (ad : Option Addr) (cap : Nat) (frm : Int) (hl : ls.length ≤ 100) (ht : (List.flatMap Pw.l ls).length ≤ 100000) {J : List Pc} (e : insA frm [] (List.flatMap Pw.l ls) = J) :
    Tri Tryz.prog 80 #[.slice ad ls.length cap, .int .i64 frm] [] [rowF ad (List.flatMap Pw.cells ls), pwF ls] (fun y : {y : Option Addr × Nat // J.length ≤ y.2 ∧ y.2 ≤ maxLen ∧ (y.1 = none → y.2 = 0)} => .slice y.1.1 J.length y.1.2) (fun _ => []) (fun y => [rowF y.1.1 (List.flatMap Pc.cells J)]) := by
  subst e
  exact rJoined_c ls ad cap frm hl ht
theorem Con.has_empty {c : Con} (h : c.empty = true) : c.has ∧ c.sz = 1 := by
  simp only [Con.empty, Bool.and_eq_true, beq_iff_eq] at h
  have hp : c.parts = [] := List.eq_nil_of_length_eq_zero (by omega)
  exact ⟨.inr ⟨h.1.1.1.1, hp⟩, by rw [Con.sz_eq, hp]; rfl⟩
theorem Ax.sides {x : Ax} (hc : x.check = 0) : (x.left.has ∧ x.left.sz ≤ 64) ∧ (x.right.has ∧ x.right.sz ≤ 64) := by
  have key : ∀ c : Con, (c.check = 0 ∨ c.empty = true) → c.has ∧ c.sz ≤ 64 := by
    intro c h
    rcases h with h | h
    · exact ⟨Con.has_of h, (Con.check_zero h).2⟩
    · have := Con.has_empty h
      exact ⟨this.1, by omega⟩
  have G := Ax.good_of hc
  have hs : x.shaped = true := by
    unfold Ax.check at hc
    split at hc
    · cases hc
    · rename_i h; simpa using h
  have k1 := G.k1
  have k9 := G.k9
  unfold Ax.shaped at hs
  rw [if_neg (by omega)] at hs
  simp only [Bool.and_eq_true, Bool.or_eq_true] at hs
  refine ⟨key _ ?_, key _ ?_⟩
  · by_cases h : x.kind ≤ 3
    · exact .inl (G.left h)
    · right
      have hk : x.kind = 4 ∨ x.kind = 5 ∨ x.kind = 6 ∨ x.kind = 7 ∨ x.kind = 8 ∨ x.kind = 9 := by omega
      have h0 := hs.1.1.1.1.1.1
      rcases hk with e | e | e | e | e | e <;> simpa [us, useL, e] using h0
  · by_cases h : x.kind ≤ 4 ∨ x.kind = 8
    · exact .inl (G.right h)
    · right
      have hk : x.kind = 5 ∨ x.kind = 6 ∨ x.kind = 7 ∨ x.kind = 9 := by omega
      have h0 := hs.1.1.1.1.1.2
      rcases hk with e | e | e | e <;> simpa [us, useL, e] using h0

set_option maxHeartbeats 4000000 in
theorem rOf1_c (x : Ax) (hok : x.ok) (hc : x.check = 0) (frm : Int) : Tri Tryz.prog 43 #[Ax.val x, .int .i64 frm] [] [Ax.memF x] (fun y : {y : Option Addr × Nat // (Ax.pieces frm x).length ≤ y.2 ∧ y.2 ≤ maxLen ∧ (y.1 = none → y.2 = 0)} => .slice y.1.1 (Ax.pieces frm x).length y.1.2) (fun _ => []) (fun y => [rowF y.1.1 (List.flatMap Pc.cells (Ax.pieces frm x))]) := by
 refine tri_of_body Tryz.func43 rfl rfl Tryz.ntmps43 rfl fun v0 => ?_
 have G := Ax.good_of hc
 have S := Ax.sides hc
 have k1 := G.k1
 have k9 := G.k9
 have hz1 := S.1.2
 have hz2 := S.2.2
 have b11 := Con.rleft_len _ x.left (Nat.le_refl _)
 have b12 := Con.rright_len _ x.left (Nat.le_refl _)
 have b21 := Con.rleft_len _ x.right (Nat.le_refl _)
 have b22 := Con.rright_len _ x.right (Nat.le_refl _)
 have hola := hok.a
 have holb := hok.b
 refine run_seq (run_region (ops_box rfl rfl fun b1 => ?_))
 refine ops_val (yld_assign rfl) rfl (ops_nil (fin_next rfl (run_seq (run_region (ops_val (yld_field Tryz.runUnderlying41 rfl rfl rfl Tryz.sizeOf38) rfl ?_)))))
 refine ops_val (yld_loadS 0 Tryz.isAgg38 Tryz.sizeOf38 rfl rfl rfl) rfl ?_
 refine ops_call (rName_c (Ax.left x) hok.left S.1.1 (by have := S.1.2; omega)) rfl pf_nil (fun v _ h => by exact ⟨h.1.1, trivial⟩) rfl fun _ => ?_
 refine ops_val (yld_assign rfl) rfl (ops_nil (fin_next rfl (run_seq (run_region (ops_val (yld_field Tryz.runUnderlying41 rfl rfl rfl Tryz.sizeOf38) rfl ?_)))))
 refine ops_val (yld_loadS 0 Tryz.isAgg38 Tryz.sizeOf38 rfl rfl rfl) rfl ?_
 refine ops_call (rName_c (Ax.right x) hok.right S.2.1 (by have := S.2.2; omega)) rfl pf_nil (fun v _ h => by exact ⟨h.1.2.1, trivial⟩) rfl fun _ => ?_
 refine ops_val (yld_assign rfl) rfl (ops_nil (fin_next rfl (run_seq (run_seq (run_region (ops_val (yld_field Tryz.runUnderlying41 rfl rfl rfl Tryz.sizeOf3) rfl ?_))))))
 refine ops_val (yld_load 0 Tryz.isAgg3 rfl rfl rfl) rfl ?_
 refine ops_nil (fin_next rfl (run_block (run_seq (run_region (ops_valB (yld_eql rfl rfl) rfl fun r1 hr1 => ?_)))))
 refine ops_val (yld_assign rfl) rfl (ops_nil (fin_next rfl ?_))
 cases r1
 ·
  replace hr1 := ne_of_beq_false hr1
  refine run_cond_f rfl (run_seq (run_region (ops_valB (yld_eql rfl rfl) rfl fun r2 hr2 => ?_)))
  refine ops_val (yld_assign rfl) rfl (ops_nil (fin_next rfl ?_))
  cases r2
  ·
   replace hr2 := ne_of_beq_false hr2
   refine run_cond_f rfl (run_seq (run_region (ops_valB (yld_eql rfl rfl) rfl fun r3 hr3 => ?_)))
   refine ops_val (yld_assign rfl) rfl (ops_nil (fin_next rfl ?_))
   cases r3
   ·
    replace hr3 := ne_of_beq_false hr3
    refine run_cond_f rfl (run_seq (run_region (ops_valB (yld_eql rfl rfl) rfl fun r4 hr4 => ?_)))
    refine ops_val (yld_assign rfl) rfl (ops_nil (fin_next rfl ?_))
    cases r4
    ·
     replace hr4 := ne_of_beq_false hr4
     refine run_cond_f rfl (run_seq (run_region (ops_valB (yld_eql rfl rfl) rfl fun r5 hr5 => ?_)))
     refine ops_val (yld_assign rfl) rfl (ops_nil (fin_next rfl ?_))
     cases r5
     ·
      replace hr5 := ne_of_beq_false hr5
      refine run_cond_f rfl (run_seq (run_region (ops_valB (yld_eql rfl rfl) rfl fun r6 hr6 => ?_)))
      refine ops_val (yld_assign rfl) rfl (ops_nil (fin_next rfl ?_))
      cases r6
      ·
       replace hr6 := ne_of_beq_false hr6
       refine run_cond_f rfl (run_seq (run_region (ops_valB (yld_eql rfl rfl) rfl fun r7 hr7 => ?_)))
       refine ops_val (yld_assign rfl) rfl (ops_nil (fin_next rfl ?_))
       cases r7
       ·
        replace hr7 := ne_of_beq_false hr7
        refine run_cond_f rfl (run_seq (run_region (ops_valB (yld_eql rfl rfl) rfl fun r8 hr8 => ?_)))
        refine ops_val (yld_assign rfl) rfl (ops_nil (fin_next rfl ?_))
        cases r8
        ·
         replace hr8 := ne_of_beq_false hr8
         refine run_cond_f rfl (run_skip (fin_next rfl (run_seq ?_)))
         refine run_draw' (by kernel_rfl) ?_
         refine any_take 0 rfl (by kernel_rfl) (by kernel_rfl) (by kernel_rfl) (yld_field Tryz.runUnderlying41 rfl rfl rfl Tryz.sizeOf9) rfl (fun _ a b => ⟨a, b⟩) ?_
         refine any_take 1 rfl (by kernel_rfl) (by kernel_rfl) (by kernel_rfl) (yld_load 0 Tryz.isAgg9 rfl rfl rfl) rfl (fun _ a b => ⟨a, b⟩) ?_
         refine any_take 3 rfl (by kernel_rfl) (by kernel_rfl) (by kernel_rfl) (yld_field Tryz.runUnderlying41 rfl rfl rfl Tryz.sizeOf9) rfl (fun _ a b => ⟨a, b⟩) ?_
         refine any_take 4 rfl (by kernel_rfl) (by kernel_rfl) (by kernel_rfl) (yld_load 0 Tryz.isAgg9 rfl rfl rfl) rfl (fun _ a b => ⟨a, b⟩) ?_
         refine any_take 5 rfl (by kernel_rfl) (by kernel_rfl) (by kernel_rfl) (yld_field Tryz.runUnderlying41 rfl rfl rfl Tryz.sizeOf9) rfl (fun _ a b => ⟨a, b⟩) ?_
         refine any_take 6 rfl (by kernel_rfl) (by kernel_rfl) (by kernel_rfl) (yld_load 0 Tryz.isAgg9 rfl rfl rfl) rfl (fun _ a b => ⟨a, b⟩) ?_
         refine any_take 11 rfl (by kernel_rfl) (by kernel_rfl) (by kernel_rfl) (yld_move rfl) rfl (fun _ a b => ⟨a, b⟩) ?_
         refine any_one 2 rfl (by kernel_rfl) ?_
         refine ops_call (rPersonT_c (Ax.a x) (by omega)) rfl pf_nil (fun _ _ _ => by exact trivial) rfl fun _ => ?_
         refine ops_nil (fin_inv rfl (any_next (fun _ a b => ⟨a, b⟩) ?_))
         refine any_one 7 rfl (by kernel_rfl) ?_
         refine ops_call (rPersonT_c (Ax.b x) (by omega)) rfl pf_nil (fun _ _ _ => by exact trivial) rfl fun _ => ?_
         refine ops_nil (fin_inv rfl (any_next (fun _ a b => ⟨a, b⟩) ?_))
         refine any_take 8 rfl (by kernel_rfl) (by kernel_rfl) (by kernel_rfl) (yld_struct strt31 rfl rfl) rfl (fun _ a b => ⟨a, b⟩) ?_
         refine any_one 9 rfl (by kernel_rfl) ?_
         refine ops_slit Tryz.runUnderlying25 Tryz.sizeOf31 Tryz.zeroValue31 rfl rfl rfl rfl rfl rfl fun b2 => ?_
         refine ok_giveR (List.flatMap Pc.cells [(Pc.mk 3 ([123] ++ (Ax.a x) ++ [125]) [] ([123] ++ (Ax.b x) ++ [125]) (Ax.role x) [] [] 0 0 0)]) pf_here rfl ?_
         refine ops_nil (fin_inv rfl (any_next (fun _ a b => ⟨a, b.2⟩) ?_))
         refine any_one 10 rfl (by kernel_rfl) ?_
         refine ops_slit Tryz.runUnderlying48 Tryz.sizeOf25 Tryz.zeroValue25 rfl rfl rfl rfl rfl rfl fun b3 => ?_
         refine ok_giveR (List.flatMap Pw.cells [(Pw.mk [(Pc.mk 3 ([123] ++ (Ax.a x) ++ [125]) [] ([123] ++ (Ax.b x) ++ [125]) (Ax.role x) [] [] 0 0 0)] (some ⟨b2, 0, none⟩) 1)]) pf_here rfl ?_
         refine ops_nil (fin_inv rfl (any_next (fun _ a b => ⟨a, b.2.2⟩) ?_))
         refine any_one 12 rfl (by kernel_rfl) ?_
         refine ops_call (rJoined_e [(Pw.mk [(Pc.mk 3 ([123] ++ (Ax.a x) ++ [125]) [] ([123] ++ (Ax.b x) ++ [125]) (Ax.role x) [] [] 0 0 0)] (some ⟨b2, 0, none⟩) 1)] (some ⟨b3, 0, none⟩) 1 frm (by simp) (by simp only [List.flatMap_cons, List.flatMap_nil, List.length_append, List.length_cons, List.length_nil, Ax.chainL_len, List.length_drop]; omega) (J := x.pieces frm) (by rw [Ax.pieces_ins]; congr 1; unfold Ax.rpieces; simp [*])) rfl pf_nil (fun v _ h => by exact ⟨h.1, (pwF_cons h.2.1 pwF_nil), trivial⟩) rfl fun ⟨⟨aj, cj⟩, hcj⟩ => ?_
         dsimp only
         refine ops_nil (fin_inv rfl (any_next (fun _ a b => ⟨a, b.2.2.2⟩) ?_))
         refine any_take 13 rfl (by kernel_rfl) (by kernel_rfl) (by kernel_rfl) (yld_assign rfl) rfl (fun _ a b => ⟨a, b.2.2.2⟩) ?_
         refine any_done (by kernel_rfl) ?_
         refine fin_next rfl (run_ret ?_)
         exact ret1 Tryz.results43 ⟨(aj, cj), hcj⟩ rfl pf_nil (fun v _ h => ⟨h.1, trivial⟩)
        ·
         replace hr8 := eq_of_beq hr8
         have hnr := Con.nameR_eq (G.right (by omega))
         refine run_cond_t rfl (run_seq ?_)
         refine run_draw' (by kernel_rfl) ?_
         refine any_take 0 rfl (by kernel_rfl) (by kernel_rfl) (by kernel_rfl) (yld_field Tryz.runUnderlying41 rfl rfl rfl Tryz.sizeOf38) rfl (fun _ a b => ⟨a, b⟩) ?_
         refine any_take 1 rfl (by kernel_rfl) (by kernel_rfl) (by kernel_rfl) (yld_loadS 0 Tryz.isAgg38 Tryz.sizeOf38 rfl rfl rfl) rfl (fun _ a b => ⟨a, b⟩) ?_
         refine any_take 3 rfl (by kernel_rfl) (by kernel_rfl) (by kernel_rfl) (yld_field Tryz.runUnderlying41 rfl rfl rfl Tryz.sizeOf9) rfl (fun _ a b => ⟨a, b⟩) ?_
         refine any_take 4 rfl (by kernel_rfl) (by kernel_rfl) (by kernel_rfl) (yld_load 0 Tryz.isAgg9 rfl rfl rfl) rfl (fun _ a b => ⟨a, b⟩) ?_
         refine any_take 6 rfl (by kernel_rfl) (by kernel_rfl) (by kernel_rfl) (yld_move rfl) rfl (fun _ a b => ⟨a, b⟩) ?_
         refine any_take 9 rfl (by kernel_rfl) (by kernel_rfl) (by kernel_rfl) (yld_move rfl) rfl (fun _ a b => ⟨a, b⟩) ?_
         refine any_one 2 rfl (by kernel_rfl) ?_
         refine ops_call (rRight_c _ (Ax.right x) (Nat.le_refl _) hok.right (G.right (by omega))) rfl pf_nil (fun v _ h => by exact ⟨h.1.2.1, trivial⟩) rfl fun ⟨⟨sl1, HL1⟩, hl1⟩ => ?_
         dsimp only
         refine ok_giveRowN hl1 pf_hereO fun al1 cl1 hsl1 hca1 hcb1 hcc1 => ?_
         subst hsl1
         refine ops_nil (fin_inv rfl (any_next (fun _ a b => ⟨a, b.2⟩) ?_))
         refine any_one 5 rfl (by kernel_rfl) ?_
         refine ops_call (rPersonT_c (Ax.a x) (by omega)) rfl pf_nil (fun _ _ _ => by exact trivial) rfl fun _ => ?_
         refine ops_nil (fin_inv rfl (any_next (fun _ a b => ⟨a, b.2⟩) ?_))
         refine any_one 7 rfl (by kernel_rfl) ?_
         refine ops_call (rSub_c ([123] ++ (Ax.a x) ++ [125]) (Con.nameR (Ax.right x))) rfl pf_nil (fun _ _ _ => by exact trivial) rfl fun bs1 => ?_
         refine ops_nil (fin_inv rfl (any_next (fun _ a b => ⟨a, b.2.2⟩) ?_))
         refine any_one 8 rfl (by kernel_rfl) ?_
         refine ops_slit Tryz.runUnderlying48 Tryz.sizeOf25 Tryz.zeroValue25 rfl rfl rfl rfl rfl rfl fun b4 => ?_
         refine ok_giveR (List.flatMap Pw.cells [(Pw.mk (Con.rright (Ax.right x)) al1 cl1), (Pw.mk [(Pc.mk 1 ([123] ++ (Ax.a x) ++ [125]) [] (Con.nameR (Ax.right x)) [] [] [] 0 0 0)] (some ⟨bs1, 0, none⟩) 1)]) pf_here rfl ?_
         refine ops_nil (fin_inv rfl (any_next (fun _ a b => ⟨a, b.2.2.2⟩) ?_))
         refine any_one 10 rfl (by kernel_rfl) ?_
         refine ops_call (rJoined_e [(Pw.mk (Con.rright (Ax.right x)) al1 cl1), (Pw.mk [(Pc.mk 1 ([123] ++ (Ax.a x) ++ [125]) [] (Con.nameR (Ax.right x)) [] [] [] 0 0 0)] (some ⟨bs1, 0, none⟩) 1)] (some ⟨b4, 0, none⟩) 2 frm (by simp) (by simp only [List.flatMap_cons, List.flatMap_nil, List.length_append, List.length_cons, List.length_nil, Ax.chainL_len, List.length_drop]; omega) (J := x.pieces frm) (by rw [Ax.pieces_ins]; congr 1; unfold Ax.rpieces; simp [*])) rfl pf_nil (fun v _ h => by exact ⟨h.1, (pwF_cons h.2.2.1 (pwF_cons h.2.1 pwF_nil)), trivial⟩) rfl fun ⟨⟨aj, cj⟩, hcj⟩ => ?_
         dsimp only
         refine ops_nil (fin_inv rfl (any_next (fun _ a b => ⟨a, b.2.2.2.2⟩) ?_))
         refine any_take 11 rfl (by kernel_rfl) (by kernel_rfl) (by kernel_rfl) (yld_assign rfl) rfl (fun _ a b => ⟨a, b.2.2.2.2⟩) ?_
         refine any_done (by kernel_rfl) ?_
         refine fin_next rfl (run_ret ?_)
         exact ret1 Tryz.results43 ⟨(aj, cj), hcj⟩ rfl pf_nil (fun v _ h => ⟨h.1, trivial⟩)
       ·
        replace hr7 := eq_of_beq hr7
        refine run_cond_t rfl (run_seq (run_region (ops_val (yld_field Tryz.runUnderlying41 rfl rfl rfl Tryz.sizeOf9) rfl ?_)))
        refine ops_val (yld_load 0 Tryz.isAgg9 rfl rfl rfl) rfl ?_
        refine ops_val (yld_struct strt31 rfl rfl) rfl ?_
        refine ops_slit Tryz.runUnderlying25 Tryz.sizeOf31 Tryz.zeroValue31 rfl rfl rfl rfl rfl rfl fun b5 => ?_
        refine ok_giveR (List.flatMap Pc.cells [(Pc.mk 7 [] [] [] (Ax.role x) [] [] 0 0 0)]) pf_here rfl ?_
        refine ops_slit Tryz.runUnderlying48 Tryz.sizeOf25 Tryz.zeroValue25 rfl rfl rfl rfl rfl rfl fun b6 => ?_
        refine ok_giveR (List.flatMap Pw.cells [(Pw.mk [(Pc.mk 7 [] [] [] (Ax.role x) [] [] 0 0 0)] (some ⟨b5, 0, none⟩) 1)]) pf_here rfl ?_
        refine ops_val (yld_move rfl) rfl (ops_call (rJoined_e [(Pw.mk [(Pc.mk 7 [] [] [] (Ax.role x) [] [] 0 0 0)] (some ⟨b5, 0, none⟩) 1)] (some ⟨b6, 0, none⟩) 1 frm (by simp) (by simp only [List.flatMap_cons, List.flatMap_nil, List.length_append, List.length_cons, List.length_nil, Ax.chainL_len, List.length_drop]; omega) (J := x.pieces frm) (by rw [Ax.pieces_ins]; congr 1; unfold Ax.rpieces; simp [*])) rfl pf_nil (fun v _ h => by exact ⟨h.1, (pwF_cons h.2.1 pwF_nil), trivial⟩) rfl fun ⟨⟨aj, cj⟩, hcj⟩ => ?_)
        dsimp only
        refine ops_val (yld_assign rfl) rfl (ops_nil (fin_next rfl (run_ret ?_)))
        exact ret1 Tryz.results43 ⟨(aj, cj), hcj⟩ rfl pf_nil (fun v _ h => ⟨h.1, trivial⟩)
      ·
       replace hr6 := eq_of_beq hr6
       have h6 := G.chain (by omega)
       refine run_cond_t rfl (run_seq (run_region (ops_val (yld_loadS 0 Tryz.isAgg41 Tryz.sizeOf41 rfl rfl rfl) rfl ?_)))
       refine ops_call (rChain_c x hok hc (by omega)) rfl pf_nil (fun v _ h => by exact ⟨h.1, trivial⟩) rfl fun ⟨⟨ach, cch⟩, hch⟩ => ?_
       dsimp only
       refine ops_slit Tryz.runUnderlying48 Tryz.sizeOf25 Tryz.zeroValue25 rfl rfl rfl rfl rfl rfl fun b7 => ?_
       refine ok_giveR (List.flatMap Pw.cells [(Pw.mk (Ax.chainL (Ax.role x) (List.drop 1 (Ax.roles x)) ((Ax.roles x).headD [])) ach cch)]) pf_here rfl ?_
       refine ops_val (yld_move rfl) rfl (ops_call (rJoined_e [(Pw.mk (Ax.chainL (Ax.role x) (List.drop 1 (Ax.roles x)) ((Ax.roles x).headD [])) ach cch)] (some ⟨b7, 0, none⟩) 1 frm (by simp) (by simp only [List.flatMap_cons, List.flatMap_nil, List.length_append, List.length_cons, List.length_nil, Ax.chainL_len, List.length_drop]; omega) (J := x.pieces frm) (by rw [Ax.pieces_ins]; congr 1; unfold Ax.rpieces; simp [*])) rfl pf_nil (fun v _ h => by exact ⟨h.1, (pwF_cons h.2.1 pwF_nil), trivial⟩) rfl fun ⟨⟨aj, cj⟩, hcj⟩ => ?_)
       dsimp only
       refine ops_val (yld_assign rfl) rfl (ops_nil (fin_next rfl (run_ret ?_)))
       exact ret1 Tryz.results43 ⟨(aj, cj), hcj⟩ rfl pf_nil (fun v _ h => ⟨h.1, trivial⟩)
     ·
      replace hr5 := eq_of_beq hr5
      have h51 := G.one (by omega)
      have hlx0 : 0 < List.length (Ax.roles x) := by omega
      obtain ⟨x0, hx0⟩ : ∃ e0, (Ax.roles x)[0]? = some e0 := ⟨_, List.getElem?_eq_getElem hlx0⟩
      have hmx0 : x0 ∈ (Ax.roles x) := List.mem_of_getElem? hx0
      have hhd : x.roles.headD [] = x0 := headD_of hx0
      refine run_cond_t rfl (run_seq ?_)
      refine run_draw' (by kernel_rfl) ?_
      refine any_take 0 rfl (by kernel_rfl) (by kernel_rfl) (by kernel_rfl) (yld_field Tryz.runUnderlying41 rfl rfl rfl Tryz.sizeOf39) rfl (fun _ a b => ⟨a, b⟩) ?_
      refine any_take 1 rfl (by kernel_rfl) (by kernel_rfl) (by kernel_rfl) (yld_load 0 Tryz.isAgg39 rfl rfl rfl) rfl (fun _ a b => ⟨a, b⟩) ?_
      refine any_take 2 rfl (by kernel_rfl) (by kernel_rfl) (by kernel_rfl) (yld_indexR Tryz.runUnderlying39 Tryz.sizeOf9 rfl rfl (fun v _ h => row_adr (n := 1) strC_len (by decide) (by exact h.1.2.2) hx0) (by omega) (by first | omega | (simp; done))) rfl (fun _ a b => ⟨a, b⟩) ?_
      refine any_take 3 rfl (by kernel_rfl) (by kernel_rfl) (by kernel_rfl) (yld_loadR (ad := (Ax.ad x)) Tryz.isAgg9 rfl (fun v _ h => by exact h.1.2.2) (row_cells strC_len hx0 0 _ rfl)) rfl (fun _ a b => ⟨a, b⟩) ?_
      refine any_take 4 rfl (by kernel_rfl) (by kernel_rfl) (by kernel_rfl) (yld_field Tryz.runUnderlying41 rfl rfl rfl Tryz.sizeOf9) rfl (fun _ a b => ⟨a, b⟩) ?_
      refine any_take 5 rfl (by kernel_rfl) (by kernel_rfl) (by kernel_rfl) (yld_load 0 Tryz.isAgg9 rfl rfl rfl) rfl (fun _ a b => ⟨a, b⟩) ?_
      refine any_take 6 rfl (by kernel_rfl) (by kernel_rfl) (by kernel_rfl) (yld_struct strt31 rfl rfl) rfl (fun _ a b => ⟨a, b⟩) ?_
      refine any_take 9 rfl (by kernel_rfl) (by kernel_rfl) (by kernel_rfl) (yld_move rfl) rfl (fun _ a b => ⟨a, b⟩) ?_
      refine any_one 7 rfl (by kernel_rfl) ?_
      refine ops_slit Tryz.runUnderlying25 Tryz.sizeOf31 Tryz.zeroValue31 rfl rfl rfl rfl rfl rfl fun b8 => ?_
      refine ok_giveR (List.flatMap Pc.cells [(Pc.mk 5 [] [] [] x0 [] (Ax.role x) 0 0 0)]) pf_here rfl ?_
      refine ops_nil (fin_inv rfl (any_next (fun _ a b => ⟨a, b.2⟩) ?_))
      refine any_one 8 rfl (by kernel_rfl) ?_
      refine ops_slit Tryz.runUnderlying48 Tryz.sizeOf25 Tryz.zeroValue25 rfl rfl rfl rfl rfl rfl fun b9 => ?_
      refine ok_giveR (List.flatMap Pw.cells [(Pw.mk [(Pc.mk 5 [] [] [] x0 [] (Ax.role x) 0 0 0)] (some ⟨b8, 0, none⟩) 1)]) pf_here rfl ?_
      refine ops_nil (fin_inv rfl (any_next (fun _ a b => ⟨a, b.2.2⟩) ?_))
      refine any_one 10 rfl (by kernel_rfl) ?_
      refine ops_call (rJoined_e [(Pw.mk [(Pc.mk 5 [] [] [] x0 [] (Ax.role x) 0 0 0)] (some ⟨b8, 0, none⟩) 1)] (some ⟨b9, 0, none⟩) 1 frm (by simp) (by simp only [List.flatMap_cons, List.flatMap_nil, List.length_append, List.length_cons, List.length_nil, Ax.chainL_len, List.length_drop]; omega) (J := x.pieces frm) (by rw [Ax.pieces_ins]; congr 1; unfold Ax.rpieces; rw [hhd]; simp [*])) rfl pf_nil (fun v _ h => by exact ⟨h.1, (pwF_cons h.2.1 pwF_nil), trivial⟩) rfl fun ⟨⟨aj, cj⟩, hcj⟩ => ?_
      dsimp only
      refine ops_nil (fin_inv rfl (any_next (fun _ a b => ⟨a, b.2.2.2⟩) ?_))
      refine any_take 11 rfl (by kernel_rfl) (by kernel_rfl) (by kernel_rfl) (yld_assign rfl) rfl (fun _ a b => ⟨a, b.2.2.2⟩) ?_
      refine any_done (by kernel_rfl) ?_
      refine fin_next rfl (run_ret ?_)
      exact ret1 Tryz.results43 ⟨(aj, cj), hcj⟩ rfl pf_nil (fun v _ h => ⟨h.1, trivial⟩)
    ·
     replace hr4 := eq_of_beq hr4
     have hnr := Con.nameR_eq (G.right (by omega))
     refine run_cond_t rfl (run_seq ?_)
     refine run_draw' (by kernel_rfl) ?_
     refine any_take 0 rfl (by kernel_rfl) (by kernel_rfl) (by kernel_rfl) (yld_field Tryz.runUnderlying41 rfl rfl rfl Tryz.sizeOf38) rfl (fun _ a b => ⟨a, b⟩) ?_
     refine any_take 1 rfl (by kernel_rfl) (by kernel_rfl) (by kernel_rfl) (yld_loadS 0 Tryz.isAgg38 Tryz.sizeOf38 rfl rfl rfl) rfl (fun _ a b => ⟨a, b⟩) ?_
     refine any_take 3 rfl (by kernel_rfl) (by kernel_rfl) (by kernel_rfl) (yld_field Tryz.runUnderlying41 rfl rfl rfl Tryz.sizeOf9) rfl (fun _ a b => ⟨a, b⟩) ?_
     refine any_take 4 rfl (by kernel_rfl) (by kernel_rfl) (by kernel_rfl) (yld_load 0 Tryz.isAgg9 rfl rfl rfl) rfl (fun _ a b => ⟨a, b⟩) ?_
     refine any_take 5 rfl (by kernel_rfl) (by kernel_rfl) (by kernel_rfl) (yld_move rfl) rfl (fun _ a b => ⟨a, b⟩) ?_
     refine any_take 6 rfl (by kernel_rfl) (by kernel_rfl) (by kernel_rfl) (yld_struct strt31 rfl rfl) rfl (fun _ a b => ⟨a, b⟩) ?_
     refine any_take 9 rfl (by kernel_rfl) (by kernel_rfl) (by kernel_rfl) (yld_move rfl) rfl (fun _ a b => ⟨a, b⟩) ?_
     refine any_two 2 7 rfl rfl (by kernel_rfl) ?_ ?_
     ·
      refine ops_call (rRight_c _ (Ax.right x) (Nat.le_refl _) hok.right (G.right (by omega))) rfl pf_nil (fun v _ h => by exact ⟨h.1.2.1, trivial⟩) rfl fun ⟨⟨sl2, HL2⟩, hl2⟩ => ?_
      dsimp only
      refine ok_giveRowN hl2 pf_hereO fun al2 cl2 hsl2 hca2 hcb2 hcc2 => ?_
      subst hsl2
      refine ops_nil (fin_inv rfl (any_next (fun _ a b => ⟨a, b.2⟩) ?_))
      refine any_one 7 rfl (by kernel_rfl) ?_
      refine ops_slit Tryz.runUnderlying25 Tryz.sizeOf31 Tryz.zeroValue31 rfl rfl rfl rfl rfl rfl fun b10 => ?_
      refine ok_giveR (List.flatMap Pc.cells [(Pc.mk 4 [42] [] (Con.nameR (Ax.right x)) (Ax.role x) [] [] 0 0 0)]) pf_here rfl ?_
      refine ops_nil (fin_inv rfl (any_next (fun _ a b => ⟨a, b.2.2⟩) ?_))
      refine any_one 8 rfl (by kernel_rfl) ?_
      refine ops_slit Tryz.runUnderlying48 Tryz.sizeOf25 Tryz.zeroValue25 rfl rfl rfl rfl rfl rfl fun b11 => ?_
      refine ok_giveR (List.flatMap Pw.cells [(Pw.mk (Con.rright (Ax.right x)) al2 cl2), (Pw.mk [(Pc.mk 4 [42] [] (Con.nameR (Ax.right x)) (Ax.role x) [] [] 0 0 0)] (some ⟨b10, 0, none⟩) 1)]) pf_here rfl ?_
      refine ops_nil (fin_inv rfl (any_next (fun _ a b => ⟨a, b.2.2.2⟩) ?_))
      refine any_one 10 rfl (by kernel_rfl) ?_
      refine ops_call (rJoined_e [(Pw.mk (Con.rright (Ax.right x)) al2 cl2), (Pw.mk [(Pc.mk 4 [42] [] (Con.nameR (Ax.right x)) (Ax.role x) [] [] 0 0 0)] (some ⟨b10, 0, none⟩) 1)] (some ⟨b11, 0, none⟩) 2 frm (by simp) (by simp only [List.flatMap_cons, List.flatMap_nil, List.length_append, List.length_cons, List.length_nil, Ax.chainL_len, List.length_drop]; omega) (J := x.pieces frm) (by rw [Ax.pieces_ins]; congr 1; unfold Ax.rpieces; simp [*])) rfl pf_nil (fun v _ h => by exact ⟨h.1, (pwF_cons h.2.2.1 (pwF_cons h.2.1 pwF_nil)), trivial⟩) rfl fun ⟨⟨aj, cj⟩, hcj⟩ => ?_
      dsimp only
      refine ops_nil (fin_inv rfl (any_next (fun _ a b => ⟨a, b.2.2.2.2⟩) ?_))
      refine any_take 11 rfl (by kernel_rfl) (by kernel_rfl) (by kernel_rfl) (yld_assign rfl) rfl (fun _ a b => ⟨a, b.2.2.2.2⟩) ?_
      refine any_done (by kernel_rfl) ?_
      refine fin_next rfl (run_ret ?_)
      exact ret1 Tryz.results43 ⟨(aj, cj), hcj⟩ rfl pf_nil (fun v _ h => ⟨h.1, trivial⟩)
     ·
      refine ops_slit Tryz.runUnderlying25 Tryz.sizeOf31 Tryz.zeroValue31 rfl rfl rfl rfl rfl rfl fun b12 => ?_
      refine ok_giveR (List.flatMap Pc.cells [(Pc.mk 4 [42] [] (Con.nameR (Ax.right x)) (Ax.role x) [] [] 0 0 0)]) pf_here rfl ?_
      refine ops_nil (fin_inv rfl (any_next (fun _ a b => ⟨a, b.2⟩) ?_))
      refine any_one 2 rfl (by kernel_rfl) ?_
      refine ops_call (rRight_c _ (Ax.right x) (Nat.le_refl _) hok.right (G.right (by omega))) rfl pf_nil (fun v _ h => by exact ⟨h.2.1.2.1, trivial⟩) rfl fun ⟨⟨sl3, HL3⟩, hl3⟩ => ?_
      dsimp only
      refine ok_giveRowN hl3 pf_hereO fun al3 cl3 hsl3 hca3 hcb3 hcc3 => ?_
      subst hsl3
      refine ops_nil (fin_inv rfl (any_next (fun _ a b => ⟨a, b.2.2⟩) ?_))
      refine any_one 8 rfl (by kernel_rfl) ?_
      refine ops_slit Tryz.runUnderlying48 Tryz.sizeOf25 Tryz.zeroValue25 rfl rfl rfl rfl rfl rfl fun b13 => ?_
      refine ok_giveR (List.flatMap Pw.cells [(Pw.mk (Con.rright (Ax.right x)) al3 cl3), (Pw.mk [(Pc.mk 4 [42] [] (Con.nameR (Ax.right x)) (Ax.role x) [] [] 0 0 0)] (some ⟨b12, 0, none⟩) 1)]) pf_here rfl ?_
      refine ops_nil (fin_inv rfl (any_next (fun _ a b => ⟨a, b.2.2.2⟩) ?_))
      refine any_one 10 rfl (by kernel_rfl) ?_
      refine ops_call (rJoined_e [(Pw.mk (Con.rright (Ax.right x)) al3 cl3), (Pw.mk [(Pc.mk 4 [42] [] (Con.nameR (Ax.right x)) (Ax.role x) [] [] 0 0 0)] (some ⟨b12, 0, none⟩) 1)] (some ⟨b13, 0, none⟩) 2 frm (by simp) (by simp only [List.flatMap_cons, List.flatMap_nil, List.length_append, List.length_cons, List.length_nil, Ax.chainL_len, List.length_drop]; omega) (J := x.pieces frm) (by rw [Ax.pieces_ins]; congr 1; unfold Ax.rpieces; simp [*])) rfl pf_nil (fun v _ h => by exact ⟨h.1, (pwF_cons h.2.1 (pwF_cons h.2.2.1 pwF_nil)), trivial⟩) rfl fun ⟨⟨aj, cj⟩, hcj⟩ => ?_
      dsimp only
      refine ops_nil (fin_inv rfl (any_next (fun _ a b => ⟨a, b.2.2.2.2⟩) ?_))
      refine any_take 11 rfl (by kernel_rfl) (by kernel_rfl) (by kernel_rfl) (yld_assign rfl) rfl (fun _ a b => ⟨a, b.2.2.2.2⟩) ?_
      refine any_done (by kernel_rfl) ?_
      refine fin_next rfl (run_ret ?_)
      exact ret1 Tryz.results43 ⟨(aj, cj), hcj⟩ rfl pf_nil (fun v _ h => ⟨h.1, trivial⟩)
   ·
    replace hr3 := eq_of_beq hr3
    have hnl := Con.nameR_eq (G.left (by omega))
    have hnr := Con.nameR_eq (G.right (by omega))
    refine run_cond_t rfl (run_seq ?_)
    refine run_draw' (by kernel_rfl) ?_
    refine any_take 0 rfl (by kernel_rfl) (by kernel_rfl) (by kernel_rfl) (yld_field Tryz.runUnderlying41 rfl rfl rfl Tryz.sizeOf38) rfl (fun _ a b => ⟨a, b⟩) ?_
    refine any_take 1 rfl (by kernel_rfl) (by kernel_rfl) (by kernel_rfl) (yld_loadS 0 Tryz.isAgg38 Tryz.sizeOf38 rfl rfl rfl) rfl (fun _ a b => ⟨a, b⟩) ?_
    refine any_take 3 rfl (by kernel_rfl) (by kernel_rfl) (by kernel_rfl) (yld_field Tryz.runUnderlying41 rfl rfl rfl Tryz.sizeOf38) rfl (fun _ a b => ⟨a, b⟩) ?_
    refine any_take 4 rfl (by kernel_rfl) (by kernel_rfl) (by kernel_rfl) (yld_loadS 0 Tryz.isAgg38 Tryz.sizeOf38 rfl rfl rfl) rfl (fun _ a b => ⟨a, b⟩) ?_
    refine any_take 6 rfl (by kernel_rfl) (by kernel_rfl) (by kernel_rfl) (yld_move rfl) rfl (fun _ a b => ⟨a, b⟩) ?_
    refine any_take 7 rfl (by kernel_rfl) (by kernel_rfl) (by kernel_rfl) (yld_move rfl) rfl (fun _ a b => ⟨a, b⟩) ?_
    refine any_take 8 rfl (by kernel_rfl) (by kernel_rfl) (by kernel_rfl) (yld_struct strt31 rfl rfl) rfl (fun _ a b => ⟨a, b⟩) ?_
    refine any_take 11 rfl (by kernel_rfl) (by kernel_rfl) (by kernel_rfl) (yld_move rfl) rfl (fun _ a b => ⟨a, b⟩) ?_
    refine any_two 2 9 rfl rfl (by kernel_rfl) ?_ ?_
    ·
     refine ops_call (rLeft_c _ (Ax.left x) (Nat.le_refl _) hok.left (G.left (by omega))) rfl pf_nil (fun v _ h => by exact ⟨h.1.1, trivial⟩) rfl fun ⟨⟨sl4, HL4⟩, hl4⟩ => ?_
     dsimp only
     refine ok_giveRowN hl4 pf_hereO fun al4 cl4 hsl4 hca4 hcb4 hcc4 => ?_
     subst hsl4
     refine ops_nil (fin_inv rfl (any_next (fun _ a b => ⟨a, b.2⟩) ?_))
     refine any_two 5 9 rfl rfl (by kernel_rfl) ?_ ?_
     ·
      refine ops_call (rLeft_c _ (Ax.right x) (Nat.le_refl _) hok.right (G.right (by omega))) rfl pf_nil (fun v _ h => by exact ⟨h.2.1.2.1, trivial⟩) rfl fun ⟨⟨sl5, HL5⟩, hl5⟩ => ?_
      dsimp only
      refine ok_giveRowN hl5 pf_hereO fun al5 cl5 hsl5 hca5 hcb5 hcc5 => ?_
      subst hsl5
      refine ops_nil (fin_inv rfl (any_next (fun _ a b => ⟨a, b.2.2⟩) ?_))
      refine any_one 9 rfl (by kernel_rfl) ?_
      refine ops_slit Tryz.runUnderlying25 Tryz.sizeOf31 Tryz.zeroValue31 rfl rfl rfl rfl rfl rfl fun b14 => ?_
      refine ok_giveR (List.flatMap Pc.cells [(Pc.mk 2 (Con.nameR (Ax.left x)) (Con.nameR (Ax.right x)) [33] [] [] [] 0 0 0)]) pf_here rfl ?_
      refine ops_nil (fin_inv rfl (any_next (fun _ a b => ⟨a, b.2.2.2⟩) ?_))
      refine any_one 10 rfl (by kernel_rfl) ?_
      refine ops_slit Tryz.runUnderlying48 Tryz.sizeOf25 Tryz.zeroValue25 rfl rfl rfl rfl rfl rfl fun b15 => ?_
      refine ok_giveR (List.flatMap Pw.cells [(Pw.mk (Con.rleft (Ax.left x)) al4 cl4), (Pw.mk (Con.rleft (Ax.right x)) al5 cl5), (Pw.mk [(Pc.mk 2 (Con.nameR (Ax.left x)) (Con.nameR (Ax.right x)) [33] [] [] [] 0 0 0)] (some ⟨b14, 0, none⟩) 1)]) pf_here rfl ?_
      refine ops_nil (fin_inv rfl (any_next (fun _ a b => ⟨a, b.2.2.2.2⟩) ?_))
      refine any_one 12 rfl (by kernel_rfl) ?_
      refine ops_call (rJoined_e [(Pw.mk (Con.rleft (Ax.left x)) al4 cl4), (Pw.mk (Con.rleft (Ax.right x)) al5 cl5), (Pw.mk [(Pc.mk 2 (Con.nameR (Ax.left x)) (Con.nameR (Ax.right x)) [33] [] [] [] 0 0 0)] (some ⟨b14, 0, none⟩) 1)] (some ⟨b15, 0, none⟩) 3 frm (by simp) (by simp only [List.flatMap_cons, List.flatMap_nil, List.length_append, List.length_cons, List.length_nil, Ax.chainL_len, List.length_drop]; omega) (J := x.pieces frm) (by rw [Ax.pieces_ins]; congr 1; unfold Ax.rpieces; simp [*])) rfl pf_nil (fun v _ h => by exact ⟨h.1, (pwF_cons h.2.2.2.1 (pwF_cons h.2.2.1 (pwF_cons h.2.1 pwF_nil))), trivial⟩) rfl fun ⟨⟨aj, cj⟩, hcj⟩ => ?_
      dsimp only
      refine ops_nil (fin_inv rfl (any_next (fun _ a b => ⟨a, b.2.2.2.2.2⟩) ?_))
      refine any_take 13 rfl (by kernel_rfl) (by kernel_rfl) (by kernel_rfl) (yld_assign rfl) rfl (fun _ a b => ⟨a, b.2.2.2.2.2⟩) ?_
      refine any_done (by kernel_rfl) ?_
      refine fin_next rfl (run_ret ?_)
      exact ret1 Tryz.results43 ⟨(aj, cj), hcj⟩ rfl pf_nil (fun v _ h => ⟨h.1, trivial⟩)
     ·
      refine ops_slit Tryz.runUnderlying25 Tryz.sizeOf31 Tryz.zeroValue31 rfl rfl rfl rfl rfl rfl fun b16 => ?_
      refine ok_giveR (List.flatMap Pc.cells [(Pc.mk 2 (Con.nameR (Ax.left x)) (Con.nameR (Ax.right x)) [33] [] [] [] 0 0 0)]) pf_here rfl ?_
      refine ops_nil (fin_inv rfl (any_next (fun _ a b => ⟨a, b.2.2⟩) ?_))
      refine any_one 5 rfl (by kernel_rfl) ?_
      refine ops_call (rLeft_c _ (Ax.right x) (Nat.le_refl _) hok.right (G.right (by omega))) rfl pf_nil (fun v _ h => by exact ⟨h.2.2.1.2.1, trivial⟩) rfl fun ⟨⟨sl6, HL6⟩, hl6⟩ => ?_
      dsimp only
      refine ok_giveRowN hl6 pf_hereO fun al6 cl6 hsl6 hca6 hcb6 hcc6 => ?_
      subst hsl6
      refine ops_nil (fin_inv rfl (any_next (fun _ a b => ⟨a, b.2.2.2⟩) ?_))
      refine any_one 10 rfl (by kernel_rfl) ?_
      refine ops_slit Tryz.runUnderlying48 Tryz.sizeOf25 Tryz.zeroValue25 rfl rfl rfl rfl rfl rfl fun b17 => ?_
      refine ok_giveR (List.flatMap Pw.cells [(Pw.mk (Con.rleft (Ax.left x)) al4 cl4), (Pw.mk (Con.rleft (Ax.right x)) al6 cl6), (Pw.mk [(Pc.mk 2 (Con.nameR (Ax.left x)) (Con.nameR (Ax.right x)) [33] [] [] [] 0 0 0)] (some ⟨b16, 0, none⟩) 1)]) pf_here rfl ?_
      refine ops_nil (fin_inv rfl (any_next (fun _ a b => ⟨a, b.2.2.2.2⟩) ?_))
      refine any_one 12 rfl (by kernel_rfl) ?_
      refine ops_call (rJoined_e [(Pw.mk (Con.rleft (Ax.left x)) al4 cl4), (Pw.mk (Con.rleft (Ax.right x)) al6 cl6), (Pw.mk [(Pc.mk 2 (Con.nameR (Ax.left x)) (Con.nameR (Ax.right x)) [33] [] [] [] 0 0 0)] (some ⟨b16, 0, none⟩) 1)] (some ⟨b17, 0, none⟩) 3 frm (by simp) (by simp only [List.flatMap_cons, List.flatMap_nil, List.length_append, List.length_cons, List.length_nil, Ax.chainL_len, List.length_drop]; omega) (J := x.pieces frm) (by rw [Ax.pieces_ins]; congr 1; unfold Ax.rpieces; simp [*])) rfl pf_nil (fun v _ h => by exact ⟨h.1, (pwF_cons h.2.2.2.1 (pwF_cons h.2.1 (pwF_cons h.2.2.1 pwF_nil))), trivial⟩) rfl fun ⟨⟨aj, cj⟩, hcj⟩ => ?_
      dsimp only
      refine ops_nil (fin_inv rfl (any_next (fun _ a b => ⟨a, b.2.2.2.2.2⟩) ?_))
      refine any_take 13 rfl (by kernel_rfl) (by kernel_rfl) (by kernel_rfl) (yld_assign rfl) rfl (fun _ a b => ⟨a, b.2.2.2.2.2⟩) ?_
      refine any_done (by kernel_rfl) ?_
      refine fin_next rfl (run_ret ?_)
      exact ret1 Tryz.results43 ⟨(aj, cj), hcj⟩ rfl pf_nil (fun v _ h => ⟨h.1, trivial⟩)
    ·
     refine ops_slit Tryz.runUnderlying25 Tryz.sizeOf31 Tryz.zeroValue31 rfl rfl rfl rfl rfl rfl fun b18 => ?_
     refine ok_giveR (List.flatMap Pc.cells [(Pc.mk 2 (Con.nameR (Ax.left x)) (Con.nameR (Ax.right x)) [33] [] [] [] 0 0 0)]) pf_here rfl ?_
     refine ops_nil (fin_inv rfl (any_next (fun _ a b => ⟨a, b.2⟩) ?_))
     refine any_one 2 rfl (by kernel_rfl) ?_
     refine ops_call (rLeft_c _ (Ax.left x) (Nat.le_refl _) hok.left (G.left (by omega))) rfl pf_nil (fun v _ h => by exact ⟨h.2.1.1, trivial⟩) rfl fun ⟨⟨sl7, HL7⟩, hl7⟩ => ?_
     dsimp only
     refine ok_giveRowN hl7 pf_hereO fun al7 cl7 hsl7 hca7 hcb7 hcc7 => ?_
     subst hsl7
     refine ops_nil (fin_inv rfl (any_next (fun _ a b => ⟨a, b.2.2⟩) ?_))
     refine any_one 5 rfl (by kernel_rfl) ?_
     refine ops_call (rLeft_c _ (Ax.right x) (Nat.le_refl _) hok.right (G.right (by omega))) rfl pf_nil (fun v _ h => by exact ⟨h.2.2.1.2.1, trivial⟩) rfl fun ⟨⟨sl8, HL8⟩, hl8⟩ => ?_
     dsimp only
     refine ok_giveRowN hl8 pf_hereO fun al8 cl8 hsl8 hca8 hcb8 hcc8 => ?_
     subst hsl8
     refine ops_nil (fin_inv rfl (any_next (fun _ a b => ⟨a, b.2.2.2⟩) ?_))
     refine any_one 10 rfl (by kernel_rfl) ?_
     refine ops_slit Tryz.runUnderlying48 Tryz.sizeOf25 Tryz.zeroValue25 rfl rfl rfl rfl rfl rfl fun b19 => ?_
     refine ok_giveR (List.flatMap Pw.cells [(Pw.mk (Con.rleft (Ax.left x)) al7 cl7), (Pw.mk (Con.rleft (Ax.right x)) al8 cl8), (Pw.mk [(Pc.mk 2 (Con.nameR (Ax.left x)) (Con.nameR (Ax.right x)) [33] [] [] [] 0 0 0)] (some ⟨b18, 0, none⟩) 1)]) pf_here rfl ?_
     refine ops_nil (fin_inv rfl (any_next (fun _ a b => ⟨a, b.2.2.2.2⟩) ?_))
     refine any_one 12 rfl (by kernel_rfl) ?_
     refine ops_call (rJoined_e [(Pw.mk (Con.rleft (Ax.left x)) al7 cl7), (Pw.mk (Con.rleft (Ax.right x)) al8 cl8), (Pw.mk [(Pc.mk 2 (Con.nameR (Ax.left x)) (Con.nameR (Ax.right x)) [33] [] [] [] 0 0 0)] (some ⟨b18, 0, none⟩) 1)] (some ⟨b19, 0, none⟩) 3 frm (by simp) (by simp only [List.flatMap_cons, List.flatMap_nil, List.length_append, List.length_cons, List.length_nil, Ax.chainL_len, List.length_drop]; omega) (J := x.pieces frm) (by rw [Ax.pieces_ins]; congr 1; unfold Ax.rpieces; simp [*])) rfl pf_nil (fun v _ h => by exact ⟨h.1, (pwF_cons h.2.2.1 (pwF_cons h.2.1 (pwF_cons h.2.2.2.1 pwF_nil))), trivial⟩) rfl fun ⟨⟨aj, cj⟩, hcj⟩ => ?_
     dsimp only
     refine ops_nil (fin_inv rfl (any_next (fun _ a b => ⟨a, b.2.2.2.2.2⟩) ?_))
     refine any_take 13 rfl (by kernel_rfl) (by kernel_rfl) (by kernel_rfl) (yld_assign rfl) rfl (fun _ a b => ⟨a, b.2.2.2.2.2⟩) ?_
     refine any_done (by kernel_rfl) ?_
     refine fin_next rfl (run_ret ?_)
     exact ret1 Tryz.results43 ⟨(aj, cj), hcj⟩ rfl pf_nil (fun v _ h => ⟨h.1, trivial⟩)
  ·
   replace hr2 := eq_of_beq hr2
   have hnl := Con.nameR_eq (G.left (by omega))
   have hnr := Con.nameR_eq (G.right (by omega))
   refine run_cond_t rfl (run_seq ?_)
   refine run_draw' (by kernel_rfl) ?_
   refine any_take 0 rfl (by kernel_rfl) (by kernel_rfl) (by kernel_rfl) (yld_field Tryz.runUnderlying41 rfl rfl rfl Tryz.sizeOf38) rfl (fun _ a b => ⟨a, b⟩) ?_
   refine any_take 1 rfl (by kernel_rfl) (by kernel_rfl) (by kernel_rfl) (yld_loadS 0 Tryz.isAgg38 Tryz.sizeOf38 rfl rfl rfl) rfl (fun _ a b => ⟨a, b⟩) ?_
   refine any_take 3 rfl (by kernel_rfl) (by kernel_rfl) (by kernel_rfl) (yld_field Tryz.runUnderlying41 rfl rfl rfl Tryz.sizeOf38) rfl (fun _ a b => ⟨a, b⟩) ?_
   refine any_take 4 rfl (by kernel_rfl) (by kernel_rfl) (by kernel_rfl) (yld_loadS 0 Tryz.isAgg38 Tryz.sizeOf38 rfl rfl rfl) rfl (fun _ a b => ⟨a, b⟩) ?_
   refine any_take 6 rfl (by kernel_rfl) (by kernel_rfl) (by kernel_rfl) (yld_move rfl) rfl (fun _ a b => ⟨a, b⟩) ?_
   refine any_take 7 rfl (by kernel_rfl) (by kernel_rfl) (by kernel_rfl) (yld_move rfl) rfl (fun _ a b => ⟨a, b⟩) ?_
   refine any_take 9 rfl (by kernel_rfl) (by kernel_rfl) (by kernel_rfl) (yld_field Tryz.runUnderlying41 rfl rfl rfl Tryz.sizeOf38) rfl (fun _ a b => ⟨a, b⟩) ?_
   refine any_take 10 rfl (by kernel_rfl) (by kernel_rfl) (by kernel_rfl) (yld_loadS 0 Tryz.isAgg38 Tryz.sizeOf38 rfl rfl rfl) rfl (fun _ a b => ⟨a, b⟩) ?_
   refine any_take 12 rfl (by kernel_rfl) (by kernel_rfl) (by kernel_rfl) (yld_field Tryz.runUnderlying41 rfl rfl rfl Tryz.sizeOf38) rfl (fun _ a b => ⟨a, b⟩) ?_
   refine any_take 13 rfl (by kernel_rfl) (by kernel_rfl) (by kernel_rfl) (yld_loadS 0 Tryz.isAgg38 Tryz.sizeOf38 rfl rfl rfl) rfl (fun _ a b => ⟨a, b⟩) ?_
   refine any_take 15 rfl (by kernel_rfl) (by kernel_rfl) (by kernel_rfl) (yld_move rfl) rfl (fun _ a b => ⟨a, b⟩) ?_
   refine any_take 16 rfl (by kernel_rfl) (by kernel_rfl) (by kernel_rfl) (yld_move rfl) rfl (fun _ a b => ⟨a, b⟩) ?_
   refine any_take 19 rfl (by kernel_rfl) (by kernel_rfl) (by kernel_rfl) (yld_move rfl) rfl (fun _ a b => ⟨a, b⟩) ?_
   refine any_one 2 rfl (by kernel_rfl) ?_
   refine ops_call (rLeft_c _ (Ax.left x) (Nat.le_refl _) hok.left (G.left (by omega))) rfl pf_nil (fun v _ h => by exact ⟨h.1.1, trivial⟩) rfl fun ⟨⟨sl9, HL9⟩, hl9⟩ => ?_
   dsimp only
   refine ok_giveRowN hl9 pf_hereO fun al9 cl9 hsl9 hca9 hcb9 hcc9 => ?_
   subst hsl9
   refine ops_nil (fin_inv rfl (any_next (fun _ a b => ⟨a, b.2⟩) ?_))
   refine any_one 5 rfl (by kernel_rfl) ?_
   refine ops_call (rRight_c _ (Ax.right x) (Nat.le_refl _) hok.right (G.right (by omega))) rfl pf_nil (fun v _ h => by exact ⟨h.2.1.2.1, trivial⟩) rfl fun ⟨⟨sl10, HL10⟩, hl10⟩ => ?_
   dsimp only
   refine ok_giveRowN hl10 pf_hereO fun al10 cl10 hsl10 hca10 hcb10 hcc10 => ?_
   subst hsl10
   refine ops_nil (fin_inv rfl (any_next (fun _ a b => ⟨a, b.2.2⟩) ?_))
   refine any_one 8 rfl (by kernel_rfl) ?_
   refine ops_call (rSub_c (Con.nameR (Ax.left x)) (Con.nameR (Ax.right x))) rfl pf_nil (fun _ _ _ => by exact trivial) rfl fun bs2 => ?_
   refine ops_nil (fin_inv rfl (any_next (fun _ a b => ⟨a, b.2.2.2⟩) ?_))
   refine any_one 11 rfl (by kernel_rfl) ?_
   refine ops_call (rLeft_c _ (Ax.right x) (Nat.le_refl _) hok.right (G.right (by omega))) rfl pf_nil (fun v _ h => by exact ⟨h.2.2.2.1.2.1, trivial⟩) rfl fun ⟨⟨sl11, HL11⟩, hl11⟩ => ?_
   dsimp only
   refine ok_giveRowN hl11 pf_hereO fun al11 cl11 hsl11 hca11 hcb11 hcc11 => ?_
   subst hsl11
   refine ops_nil (fin_inv rfl (any_next (fun _ a b => ⟨a, b.2.2.2.2⟩) ?_))
   refine any_one 14 rfl (by kernel_rfl) ?_
   refine ops_call (rRight_c _ (Ax.left x) (Nat.le_refl _) hok.left (G.left (by omega))) rfl pf_nil (fun v _ h => by exact ⟨h.2.2.2.2.1.1, trivial⟩) rfl fun ⟨⟨sl12, HL12⟩, hl12⟩ => ?_
   dsimp only
   refine ok_giveRowN hl12 pf_hereO fun al12 cl12 hsl12 hca12 hcb12 hcc12 => ?_
   subst hsl12
   refine ops_nil (fin_inv rfl (any_next (fun _ a b => ⟨a, b.2.2.2.2.2⟩) ?_))
   refine any_one 17 rfl (by kernel_rfl) ?_
   refine ops_call (rSub_c (Con.nameR (Ax.right x)) (Con.nameR (Ax.left x))) rfl pf_nil (fun _ _ _ => by exact trivial) rfl fun bs3 => ?_
   refine ops_nil (fin_inv rfl (any_next (fun _ a b => ⟨a, b.2.2.2.2.2.2⟩) ?_))
   refine any_one 18 rfl (by kernel_rfl) ?_
   refine ops_slit Tryz.runUnderlying48 Tryz.sizeOf25 Tryz.zeroValue25 rfl rfl rfl rfl rfl rfl fun b20 => ?_
   refine ok_giveR (List.flatMap Pw.cells [(Pw.mk (Con.rleft (Ax.left x)) al9 cl9), (Pw.mk (Con.rright (Ax.right x)) al10 cl10), (Pw.mk [(Pc.mk 1 (Con.nameR (Ax.left x)) [] (Con.nameR (Ax.right x)) [] [] [] 0 0 0)] (some ⟨bs2, 0, none⟩) 1), (Pw.mk (Con.rleft (Ax.right x)) al11 cl11), (Pw.mk (Con.rright (Ax.left x)) al12 cl12), (Pw.mk [(Pc.mk 1 (Con.nameR (Ax.right x)) [] (Con.nameR (Ax.left x)) [] [] [] 0 0 0)] (some ⟨bs3, 0, none⟩) 1)]) pf_here rfl ?_
   refine ops_nil (fin_inv rfl (any_next (fun _ a b => ⟨a, b.2.2.2.2.2.2.2⟩) ?_))
   refine any_one 20 rfl (by kernel_rfl) ?_
   refine ops_call (rJoined_e [(Pw.mk (Con.rleft (Ax.left x)) al9 cl9), (Pw.mk (Con.rright (Ax.right x)) al10 cl10), (Pw.mk [(Pc.mk 1 (Con.nameR (Ax.left x)) [] (Con.nameR (Ax.right x)) [] [] [] 0 0 0)] (some ⟨bs2, 0, none⟩) 1), (Pw.mk (Con.rleft (Ax.right x)) al11 cl11), (Pw.mk (Con.rright (Ax.left x)) al12 cl12), (Pw.mk [(Pc.mk 1 (Con.nameR (Ax.right x)) [] (Con.nameR (Ax.left x)) [] [] [] 0 0 0)] (some ⟨bs3, 0, none⟩) 1)] (some ⟨b20, 0, none⟩) 6 frm (by simp) (by simp only [List.flatMap_cons, List.flatMap_nil, List.length_append, List.length_cons, List.length_nil, Ax.chainL_len, List.length_drop]; omega) (J := x.pieces frm) (by rw [Ax.pieces_ins]; congr 1; unfold Ax.rpieces; simp [*])) rfl pf_nil (fun v _ h => by exact ⟨h.1, (pwF_cons h.2.2.2.2.2.2.1 (pwF_cons h.2.2.2.2.2.1 (pwF_cons h.2.2.2.2.1 (pwF_cons h.2.2.2.1 (pwF_cons h.2.2.1 (pwF_cons h.2.1 pwF_nil)))))), trivial⟩) rfl fun ⟨⟨aj, cj⟩, hcj⟩ => ?_
   dsimp only
   refine ops_nil (fin_inv rfl (any_next (fun _ a b => ⟨a, b.2.2.2.2.2.2.2.2⟩) ?_))
   refine any_take 21 rfl (by kernel_rfl) (by kernel_rfl) (by kernel_rfl) (yld_assign rfl) rfl (fun _ a b => ⟨a, b.2.2.2.2.2.2.2.2⟩) ?_
   refine any_done (by kernel_rfl) ?_
   refine fin_next rfl (run_ret ?_)
   exact ret1 Tryz.results43 ⟨(aj, cj), hcj⟩ rfl pf_nil (fun v _ h => ⟨h.1, trivial⟩)
 ·
  replace hr1 := eq_of_beq hr1
  have hnl := Con.nameR_eq (G.left (by omega))
  have hnr := Con.nameR_eq (G.right (by omega))
  refine run_cond_t rfl (run_seq ?_)
  refine run_draw' (by kernel_rfl) ?_
  refine any_take 0 rfl (by kernel_rfl) (by kernel_rfl) (by kernel_rfl) (yld_field Tryz.runUnderlying41 rfl rfl rfl Tryz.sizeOf38) rfl (fun _ a b => ⟨a, b⟩) ?_
  refine any_take 1 rfl (by kernel_rfl) (by kernel_rfl) (by kernel_rfl) (yld_loadS 0 Tryz.isAgg38 Tryz.sizeOf38 rfl rfl rfl) rfl (fun _ a b => ⟨a, b⟩) ?_
  refine any_take 3 rfl (by kernel_rfl) (by kernel_rfl) (by kernel_rfl) (yld_field Tryz.runUnderlying41 rfl rfl rfl Tryz.sizeOf38) rfl (fun _ a b => ⟨a, b⟩) ?_
  refine any_take 4 rfl (by kernel_rfl) (by kernel_rfl) (by kernel_rfl) (yld_loadS 0 Tryz.isAgg38 Tryz.sizeOf38 rfl rfl rfl) rfl (fun _ a b => ⟨a, b⟩) ?_
  refine any_take 6 rfl (by kernel_rfl) (by kernel_rfl) (by kernel_rfl) (yld_move rfl) rfl (fun _ a b => ⟨a, b⟩) ?_
  refine any_take 7 rfl (by kernel_rfl) (by kernel_rfl) (by kernel_rfl) (yld_move rfl) rfl (fun _ a b => ⟨a, b⟩) ?_
  refine any_take 10 rfl (by kernel_rfl) (by kernel_rfl) (by kernel_rfl) (yld_move rfl) rfl (fun _ a b => ⟨a, b⟩) ?_
  refine any_one 2 rfl (by kernel_rfl) ?_
  refine ops_call (rLeft_c _ (Ax.left x) (Nat.le_refl _) hok.left (G.left (by omega))) rfl pf_nil (fun v _ h => by exact ⟨h.1.1, trivial⟩) rfl fun ⟨⟨sl13, HL13⟩, hl13⟩ => ?_
  dsimp only
  refine ok_giveRowN hl13 pf_hereO fun al13 cl13 hsl13 hca13 hcb13 hcc13 => ?_
  subst hsl13
  refine ops_nil (fin_inv rfl (any_next (fun _ a b => ⟨a, b.2⟩) ?_))
  refine any_one 5 rfl (by kernel_rfl) ?_
  refine ops_call (rRight_c _ (Ax.right x) (Nat.le_refl _) hok.right (G.right (by omega))) rfl pf_nil (fun v _ h => by exact ⟨h.2.1.2.1, trivial⟩) rfl fun ⟨⟨sl14, HL14⟩, hl14⟩ => ?_
  dsimp only
  refine ok_giveRowN hl14 pf_hereO fun al14 cl14 hsl14 hca14 hcb14 hcc14 => ?_
  subst hsl14
  refine ops_nil (fin_inv rfl (any_next (fun _ a b => ⟨a, b.2.2⟩) ?_))
  refine any_one 8 rfl (by kernel_rfl) ?_
  refine ops_call (rSub_c (Con.nameR (Ax.left x)) (Con.nameR (Ax.right x))) rfl pf_nil (fun _ _ _ => by exact trivial) rfl fun bs4 => ?_
  refine ops_nil (fin_inv rfl (any_next (fun _ a b => ⟨a, b.2.2.2⟩) ?_))
  refine any_one 9 rfl (by kernel_rfl) ?_
  refine ops_slit Tryz.runUnderlying48 Tryz.sizeOf25 Tryz.zeroValue25 rfl rfl rfl rfl rfl rfl fun b21 => ?_
  refine ok_giveR (List.flatMap Pw.cells [(Pw.mk (Con.rleft (Ax.left x)) al13 cl13), (Pw.mk (Con.rright (Ax.right x)) al14 cl14), (Pw.mk [(Pc.mk 1 (Con.nameR (Ax.left x)) [] (Con.nameR (Ax.right x)) [] [] [] 0 0 0)] (some ⟨bs4, 0, none⟩) 1)]) pf_here rfl ?_
  refine ops_nil (fin_inv rfl (any_next (fun _ a b => ⟨a, b.2.2.2.2⟩) ?_))
  refine any_one 11 rfl (by kernel_rfl) ?_
  refine ops_call (rJoined_e [(Pw.mk (Con.rleft (Ax.left x)) al13 cl13), (Pw.mk (Con.rright (Ax.right x)) al14 cl14), (Pw.mk [(Pc.mk 1 (Con.nameR (Ax.left x)) [] (Con.nameR (Ax.right x)) [] [] [] 0 0 0)] (some ⟨bs4, 0, none⟩) 1)] (some ⟨b21, 0, none⟩) 3 frm (by simp) (by simp only [List.flatMap_cons, List.flatMap_nil, List.length_append, List.length_cons, List.length_nil, Ax.chainL_len, List.length_drop]; omega) (J := x.pieces frm) (by rw [Ax.pieces_ins]; congr 1; unfold Ax.rpieces; simp [*])) rfl pf_nil (fun v _ h => by exact ⟨h.1, (pwF_cons h.2.2.2.1 (pwF_cons h.2.2.1 (pwF_cons h.2.1 pwF_nil))), trivial⟩) rfl fun ⟨⟨aj, cj⟩, hcj⟩ => ?_
  dsimp only
  refine ops_nil (fin_inv rfl (any_next (fun _ a b => ⟨a, b.2.2.2.2.2⟩) ?_))
  refine any_take 12 rfl (by kernel_rfl) (by kernel_rfl) (by kernel_rfl) (yld_assign rfl) rfl (fun _ a b => ⟨a, b.2.2.2.2.2⟩) ?_
  refine any_done (by kernel_rfl) ?_
  refine fin_next rfl (run_ret ?_)
  exact ret1 Tryz.results43 ⟨(aj, cj), hcj⟩ rfl pf_nil (fun v _ h => ⟨h.1, trivial⟩)

end Go.Proofs.YtoafjmalfclpoaaGreatDoor

/-
  My own contracts.
-/
namespace Go.Proofs.YtoafjmalfclpoaaGreatDoor
open Go Go.Sx Go.Proofs
set_option linter.unusedVariables false
attribute [local irreducible] Code.wp wpList wpAnyH

open Go.Vs
theorem Ax.right_cells (x : Ax) : ∀ (j : Nat) (y : Value), (Con.cells x.right)[j]? = some y → (Ax.cells x)[7 + j]? = some y := fun j y hj => by
  match j, hj with
  | 0, h => exact h
  | 1, h => exact h
  | 2, h => exact h
  | 3, h => exact h
  | 4, h => exact h
  | n + 5, h => simp [Con.cells] at h
theorem piecesL_small {l : List Ax} {p : List Pc} {er : Int} (hl : l.length ≤ 12) (hP : piecesL l = (p, er)) : p.length ≤ 12000 := by
  by_cases hb : firstBad l = 0
  · rw [piecesL_ok hl (firstBad_ne hb)] at hP
    obtain ⟨rfl, rfl⟩ := Prod.mk.inj hP
    have := flat_len 0 l (firstBad_ne hb)
    omega
  · rw [piecesL_bad hl hb] at hP
    obtain ⟨rfl, rfl⟩ := Prod.mk.inj hP
    simp

theorem flat_step {l : List Ax} {i : Nat} {x : Ax} (h : l[i]? = some x) : flat 0 (List.take (i + 1) l) = flat 0 (List.take i l) ++ x.pieces (i : Int) := by
  have hi := (List.getElem?_eq_some_iff.1 h).1
  rw [List.take_add_one, h, Option.toList_some, flat_append, List.length_take, Nat.min_eq_left (by omega), Nat.zero_add]
  simp [flat]

theorem rPieces_c (l : List Ax) (ad : Option Addr) (cap : Nat) (hcap : l.length ≤ cap ∧ cap ≤ 2199023255488) (hok : ∀ x ∈ l, x.ok) (h12 : l.length ≤ 12) (hfw : ∀ x ∈ l, Ax.Few x) {p : List Pc} {er : Int} (hP : piecesL l = (p, er)) : Tri Tryz.prog 14 #[.slice ad (List.length l) cap] [] [axsF ad l] (fun y : {y : Option Addr × Nat // p.length ≤ y.2 ∧ y.2 ≤ maxLen} => .tuple #[.slice y.1.1 p.length y.1.2, .int .i64 er]) (fun _ => []) (fun y => [rowF y.1.1 (p.flatMap Pc.cells)]) := by
 refine tri_of_body Tryz.func14 rfl rfl Tryz.ntmps14 rfl fun v0 => ?_
 refine run_seq (run_region (ops_val (yld_assign rfl) rfl (ops_val (yld_assign rfl) rfl (ops_nil (fin_next rfl (run_seq (run_seq ?_)))))))
 refine run_region (ops_val (yld_move rfl) rfl (ops_val (yld_lenS Tryz.runUnderlying22 rfl) rfl ?_))
 refine ops_valB (yld_gtr rfl rfl) rfl fun r1 hr1 => ?_
 refine ops_nil (fin_next rfl ?_)
 cases r1
 ·
  replace hr1 := of_decide_eq_false hr1
  refine run_cond_f rfl (run_skip (fin_next rfl (run_seq (run_seq (run_region (ops_val (yld_assign rfl) rfl (ops_nil ?_)))))))
  refine fin_next rfl (run_block (ok_fr [(0, .slice ad (List.length l) cap), (4, .int .i64 ((0 : Nat) : Int))] ⟨rfl, rfl, trivial⟩ ?_))
  refine run_loop (ι := {q : Nat // q ≤ l.length ∧ ∀ y ∈ l.take q, y.check = 0}) (fun zz => [(0, .slice ad (List.length l) cap), (4, .int .i64 (zz.1 : Int))]) (fun _ => _) (fun _ => _) (fun zz => l.length - zz.1) ⟨0, by simp⟩ ?_
  rintro ⟨i, hk⟩
  refine ok_fr [(0, .slice ad (List.length l) cap), (4, .int .i64 (i : Int))] ⟨rfl, rfl, trivial⟩ ?_
  refine run_seq (run_seq (run_region (ops_val (yld_move rfl) rfl (ops_val (yld_move rfl) rfl (ops_val (yld_lenS Tryz.runUnderlying22 rfl) rfl ?_)))))
  refine ops_valB (yld_lss rfl rfl) rfl fun r2 hr2 => ?_
  refine ops_nil (fin_next rfl ?_)
  cases r2
  ·
   replace hr2 := of_decide_eq_false hr2
   refine run_cond_f rfl (run_exit rfl (fin_next rfl (run_seq (run_region (ops_val (yld_assign rfl) rfl (ops_nil (fin_next rfl ?_)))))))
   refine run_seq (run_seq (run_region (ops_val (yld_assign rfl) rfl (ops_nil (fin_next rfl (run_block ?_))))))
   have hall : ∀ y ∈ l, y.check = 0 := fun y hy => hk.2 y (by rw [List.take_of_length_le (by omega)]; exact hy)
   have hfl := flat_len 0 l hall
   rw [piecesL_ok (by omega) hall] at hP
   obtain ⟨rfl, rfl⟩ := Prod.mk.inj hP
   refine ok_fr [(0, .slice ad (List.length l) cap), (6, .slice none 0 0), (7, .int .i64 ((0 : Nat) : Int))] ⟨rfl, rfl, rfl, trivial⟩ ?_
   refine run_loop (ι := {y : Nat × Value × Hp // y.1 ≤ l.length ∧ SRow 31 10 y.2.1 (flat 0 (List.take y.1 l)).length ((flat 0 (List.take y.1 l)).flatMap Pc.cells) y.2.2}) (fun y => [(0, .slice ad (List.length l) cap), (6, y.1.2.1), (7, .int .i64 (y.1.1 : Int))]) (fun y => y.1.2.2) (fun _ => _) (fun y => l.length - y.1.1) ⟨(0, .slice none 0 0, []), by simp, SRow.nil _ _⟩ ?_
   rintro ⟨⟨j, sv, Hr⟩, hj, hrow⟩
   dsimp only at hj hrow
   dsimp only
   have hfj := flat_len 0 (l.take j) (fun y hy => hall y (List.mem_of_mem_take hy))
   rw [List.length_take] at hfj
   refine ok_fr [(0, .slice ad (List.length l) cap), (6, sv), (7, .int .i64 (j : Int))] ⟨rfl, rfl, rfl, trivial⟩ ?_
   refine run_seq (run_seq (run_region (ops_val (yld_move rfl) rfl (ops_val (yld_move rfl) rfl (ops_val (yld_lenS Tryz.runUnderlying22 rfl) rfl ?_)))))
   refine ops_valB (yld_lss rfl rfl) rfl fun r3 hr3 => ?_
   refine ops_nil (fin_next rfl ?_)
   cases r3
   ·
    replace hr3 := of_decide_eq_false hr3
    refine run_cond_f rfl (run_exit rfl (fin_next rfl (run_seq (run_seq (run_region (ops_val (yld_move rfl) rfl (ops_val (yld_lenRow hrow Tryz.runUnderlying25 rfl) rfl ?_)))))))
    refine ops_valB (yld_gtr rfl rfl) rfl fun r4 hr4 => ?_
    refine ops_nil (fin_next rfl ?_)
    cases r4
    ·
     replace hr4 := of_decide_eq_false hr4
     refine run_cond_f rfl (run_skip (fin_next rfl (run_seq (run_region (ops_val (yld_move rfl) rfl (ops_val (yld_assign rfl) rfl (ops_val (yld_assign rfl) rfl ?_)))))))
     refine ops_nil (fin_next rfl (run_ret ?_))
     rw [List.take_of_length_le (show l.length ≤ j by omega)] at hrow
     refine ok_giveRowN hrow pf_end fun ad2 cp2 hsv hc1 hc2 hc3 => ?_
     subst hsv
     exact ret2 Tryz.results14 ⟨(ad2, cp2), hc1, hc2⟩ rfl rfl rfl pf_nil (fun v _ h => ⟨h.1, trivial⟩)
    ·
     replace hr4 := of_decide_eq_true hr4
     exfalso; omega
   ·
    replace hr3 := of_decide_eq_true hr3
    have hlx2 : j < List.length l := by omega
    obtain ⟨x2, hx2⟩ : ∃ e0, l[j]? = some e0 := ⟨_, List.getElem?_eq_getElem hlx2⟩
    have hmx2 : x2 ∈ l := List.mem_of_getElem? hx2
    have hpl := pieces_len (j : Int) (Ax.good_of (hall x2 hmx2))
    refine run_cond_t rfl (run_skip (fin_next rfl (run_seq (run_block (run_region (ops_val (yld_move rfl) rfl (ops_val (yld_move rfl) rfl ?_)))))))
    refine ops_val (yld_move rfl) rfl (ops_val (yld_indexR Tryz.runUnderlying22 Tryz.sizeOf41 rfl rfl (fun v _ h => row_adr (n := 16) Ax.cells_len (by decide) (by exact h.1.1) hx2) (by omega) (by first | omega | (simp; done))) rfl ?_)
    refine ops_val (yld_loadRS (ad := ad) (us := Ax.cells x2) Tryz.isAgg41 Tryz.sizeOf41 rfl (fun v _ h => by exact h.1.1) (Ax.cells_len _) (row_cells Ax.cells_len hx2)) rfl ?_
    refine ops_val (yld_move rfl) rfl (ops_call (rOf1_c x2 (hok x2 hmx2) (hall x2 hmx2) (j : Int)) rfl pf_nil (fun v _ h => by exact ⟨(h.1.2 x2 hmx2), trivial⟩) rfl fun ⟨⟨al1, cl1⟩, hca1, hcb1, hcc1⟩ => ?_)
    dsimp only
    refine ok_perm pf_un ?_
    refine ops_appendR (news := List.flatMap Pc.cells (Ax.pieces (j : Int) x2)) eltPc hrow rfl rfl hcc1 hca1 pf_end (by rw [fm_len Pc.cells 10 Pc.cells_len]) (fun v _ h => by exact h.1) (fun u hu => one_pcs hu) (by simp only [maxLen]; omega) (by omega) rfl fun sv1 Hr1 hr1 => ?_
    refine ok_perm (@List.perm_append_comm _ _ []) ?_
    have hq1 : SRow 31 10 sv1 ((flat 0 (List.take j l)) ++ (Ax.pieces (j : Int) x2)).length (((flat 0 (List.take j l)) ++ (Ax.pieces (j : Int) x2)).flatMap Pc.cells) Hr1 := by rw [List.length_append, List.flatMap_append]; simpa using hr1
    refine ops_val (yld_assign rfl) rfl (ops_nil (fin_next rfl (run_region (ops_val (yld_move rfl) rfl (ops_val (yld_arith rfl rfl rfl (wrap64 (by omega) (by omega))) rfl ?_)))))
    refine ops_val (yld_assign rfl) rfl (ops_nil (fin_inv rfl ?_))
    exact ok_again ⟨(j + 1, sv1, Hr1), hlx2, by dsimp only; rw [flat_step hx2]; exact hq1⟩ (by dsimp only; omega) ⟨rfl, rfl, rfl, trivial⟩ pf_end (fun _ _ h => h.2)
  ·
   replace hr2 := of_decide_eq_true hr2
   have hlx1 : i < List.length l := by omega
   obtain ⟨x1, hx1⟩ : ∃ e0, l[i]? = some e0 := ⟨_, List.getElem?_eq_getElem hlx1⟩
   have hmx1 : x1 ∈ l := List.mem_of_getElem? hx1
   refine run_cond_t rfl (run_skip (fin_next rfl (run_seq (run_block (run_seq (run_region (ops_val (yld_move rfl) rfl ?_)))))))
   refine ops_val (yld_move rfl) rfl (ops_val (yld_indexR Tryz.runUnderlying22 Tryz.sizeOf41 rfl rfl (fun v _ h => row_adr (n := 16) Ax.cells_len (by decide) (by exact h.1.1) hx1) (by omega) (by first | omega | (simp; done))) rfl ?_)
   refine ops_val (yld_loadRS (ad := ad) (us := Ax.cells x1) Tryz.isAgg41 Tryz.sizeOf41 rfl (fun v _ h => by exact h.1.1) (Ax.cells_len _) (row_cells Ax.cells_len hx1)) rfl ?_
   refine ops_call (rCheckAxiom_c x1 (hok x1 hmx1) (by have := (hfw x1 hmx1).left; omega) (by have := (hfw x1 hmx1).right; omega)) rfl pf_nil (fun v _ h => by exact ⟨(h.1.2 x1 hmx1), trivial⟩) rfl fun _ => ?_
   refine ops_val (yld_assign rfl) rfl (ops_nil (fin_next rfl (run_seq (run_region (ops_val (yld_move rfl) rfl (ops_valB (yld_neq rfl rfl) rfl fun r5 hr5 => ?_))))))
   refine ops_nil (fin_next rfl ?_)
   cases r5
   ·
    replace hr5 := eq_of_bne hr5
    refine run_cond_f rfl (run_skip (fin_next rfl (run_region (ops_val (yld_move rfl) rfl (ops_val (yld_arith rfl rfl rfl (wrap64 (by omega) (by omega))) rfl ?_)))))
    refine ops_val (yld_assign rfl) rfl (ops_nil (fin_inv rfl ?_))
    exact ok_again ⟨i + 1, hlx1, fun y hy => by rw [List.take_add_one, hx1] at hy; simp only [Option.toList_some, List.mem_append, List.mem_singleton] at hy; rcases hy with hy | rfl; exact hk.2 y hy; assumption⟩ (by dsimp only; omega) ⟨rfl, rfl, trivial⟩ (.refl _) (fun _ _ h => h)
   ·
    replace hr5 := ne_of_bne hr5
    refine run_cond_t rfl (run_seq (run_region (ops_val (yld_move rfl) rfl (ops_val (yld_assign rfl) rfl (ops_val (yld_assign rfl) rfl (ops_nil (fin_next rfl ?_)))))))
    refine run_ret ?_
    rw [piecesL_bad (by omega) (by rw [firstBad_at hx1 hk.2 (by assumption)]; assumption), firstBad_at hx1 hk.2 (by assumption)] at hP
    obtain ⟨rfl, rfl⟩ := Prod.mk.inj hP
    exact ret2 Tryz.results14 ⟨(none, 0), by simp, by decide⟩ rfl rfl rfl pf_nil (fun _ _ _ => ⟨.inl rfl, trivial⟩)
 ·
  replace hr1 := of_decide_eq_true hr1
  exfalso; omega

theorem rAtomRef_c (c : Con) (hok : c.ok) (hz : c.sz ≤ 1000) : Tri Tryz.prog 17 #[Con.val c] [] [Con.memF c] (fun _ : Unit => .tuple #[str (if Con.check c = 0 then Con.atom c else []), .int .i64 c.check]) (fun _ => []) (fun _ => []) := by
  refine tri_of_body Tryz.func17 rfl rfl Tryz.ntmps17 rfl fun v0 => ?_
  refine run_seq (run_region (ops_box rfl rfl fun b1 => ?_))
  refine ops_val (yld_assign rfl) rfl (ops_val (yld_assign rfl) rfl (ops_nil (fin_next rfl (run_seq (run_region (ops_val (yld_loadS 0 Tryz.isAgg38 Tryz.sizeOf38 rfl rfl rfl) rfl ?_))))))
  refine ops_call (rCheckConcept_c c hok hz) rfl pf_nil (fun v _ h => by exact ⟨h.1, trivial⟩) rfl fun _ => ?_
  refine ops_val (yld_assign rfl) rfl (ops_nil (fin_next rfl (run_seq (run_seq (run_region (ops_val (yld_move rfl) rfl (ops_valB (yld_neq rfl rfl) rfl fun r1 hr1 => ?_)))))))
  refine ops_nil (fin_next rfl ?_)
  cases r1
  · skip
    replace hr1 := eq_of_bne hr1
    refine run_cond_f rfl (run_skip (fin_next rfl (run_seq (run_region (ops_val (yld_loadS 0 Tryz.isAgg38 Tryz.sizeOf38 rfl rfl rfl) rfl ?_)))))
    refine ops_call (rNameA_c c hok (by assumption)) rfl pf_nil (fun v _ h => by exact ⟨h.1, trivial⟩) rfl fun _ => ?_
    refine ops_val (yld_assign rfl) rfl (ops_val (yld_assign rfl) rfl (ops_nil (fin_next rfl (run_ret ?_))))
    exact ret2 Tryz.results17 () rfl rfl (by have e : c.check = 0 := (by assumption); rw [if_pos e, e]) pf_nil (fun _ _ _ => trivial)
  · skip
    replace hr1 := ne_of_bne hr1
    refine run_cond_t rfl (run_seq (run_region (ops_val (yld_move rfl) rfl (ops_val (yld_assign rfl) rfl (ops_val (yld_assign rfl) rfl (ops_nil (fin_next rfl ?_)))))))
    refine run_ret ?_
    exact ret2 Tryz.results17 () rfl rfl (by rw [if_neg (by assumption)]; rfl) pf_nil (fun _ _ _ => trivial)

theorem normalPieces_c (l : List Ax) (ad : Option Addr) (cap : Nat) (hcap : l.length ≤ cap ∧ cap ≤ 2199023255488) (hok : ∀ x ∈ l, x.ok) : Tri Tryz.prog 4 #[.slice ad (List.length l) cap] [] [axsF ad l, tabs] (fun _ : Unit => .bool true) (fun _ => []) (fun _ => []) := by
 refine tri_of_body Tryz.func4 rfl rfl Tryz.ntmps4 rfl fun v0 => ?_
 rcases hP : piecesL l with ⟨p, er⟩
 refine run_seq (run_region (ops_val (yld_assign rfl) rfl (ops_nil (fin_next rfl (run_seq (run_seq (run_region ?_)))))))
 refine ops_call (sane_c) rfl pf_nil (fun v _ h => by exact ⟨h.2.1, trivial⟩) rfl fun _ => ?_
 refine ops_val (yld_not rfl) rfl ?_
 refine ops_nil (fin_next rfl (run_cond_f rfl (run_skip (fin_next rfl (run_seq (run_seq (run_region ?_)))))))
 refine ops_val (yld_move rfl) rfl (ops_call (few122_c l ad cap hcap hok) rfl pf_nil (fun v _ h => by exact ⟨h.1, trivial⟩) rfl fun ⟨fb, hfb⟩ => ?_)
 dsimp only
 refine ops_val (yld_not rfl) rfl ?_
 refine ops_nil (fin_next rfl ?_)
 cases fb
 ·
  refine run_cond_t rfl (run_seq (run_region (ops_val (yld_assign rfl) rfl (ops_nil (fin_next rfl (run_ret ?_))))))
  exact ret1 Tryz.results4 () rfl pf_nil (fun _ _ _ => trivial)
 ·
  obtain ⟨h12, hfw⟩ := hfb rfl
  have hpl := piecesL_small h12 hP
  refine run_cond_f rfl (run_skip (fin_next rfl (run_seq (run_region (ops_val (yld_move rfl) rfl (ops_call (pieces_e l ad cap hcap hok hP) rfl pf_nil (fun v _ h => by exact ⟨h.1, h.2.1, trivial⟩) rfl fun ⟨⟨ap1, cp1⟩, hp1⟩ => ?_))))))
  dsimp only
  refine ops_val (yld_move rfl) rfl (ops_val (yld_extract rfl rfl) rfl ?_)
  refine ops_val (yld_extract rfl rfl) rfl ?_
  refine ops_val (yld_assign rfl) rfl (ops_val (yld_assign rfl) rfl (ops_nil (fin_next rfl (run_seq (run_region (ops_val (yld_move rfl) rfl (ops_call (rPieces_c l ad cap hcap hok h12 hfw hP) rfl pf_nil (fun v _ h => by exact ⟨h.2.1, trivial⟩) rfl fun ⟨⟨ap2, cp2⟩, hp2⟩ => ?_)))))))
  dsimp only
  refine ops_val (yld_move rfl) rfl (ops_val (yld_extract rfl rfl) rfl ?_)
  refine ops_val (yld_extract rfl rfl) rfl ?_
  refine ops_val (yld_assign rfl) rfl (ops_val (yld_assign rfl) rfl (ops_nil (fin_next rfl (run_seq (run_seq (run_region (ops_val (yld_move rfl) rfl ?_)))))))
  refine ops_val (yld_move rfl) rfl (ops_valB (yld_neq rfl rfl) rfl fun r1 hr1 => ?_)
  refine ops_val (yld_move rfl) rfl ?_
  cases r1
  ·
   replace hr1 := eq_of_bne hr1
   refine ops_yes rfl rfl (ops_val (yld_move rfl) rfl (ops_yes rfl rfl (ops_val (yld_move rfl) rfl (ops_yes rfl rfl (ops_callB (same_c p p ap1 ap2 cp1 cp2 (by omega) (by omega)) rfl pf_nil (fun v _ h => by exact ⟨h.2.1, h.1, trivial⟩) rfl fun r2 hr2 => ?_)))))
   refine ops_yes rfl rfl (ops_val (yld_not rfl) rfl ?_)
   refine ops_val (yld_pick_f rfl rfl) rfl ?_
   refine ops_nil (fin_next rfl ?_)
   cases r2
   ·
    replace hr2 := of_decide_eq_false hr2
    exact absurd rfl hr2
   ·
    replace hr2 := of_decide_eq_true hr2
    refine run_cond_f rfl (run_skip (fin_next rfl (run_seq (run_seq (run_region (ops_val (yld_assign rfl) rfl (ops_nil ?_)))))))
    refine fin_next rfl (run_block (ok_fr [(0, .slice ad (List.length l) cap), (7, .int .i64 ((0 : Nat) : Int))] ⟨rfl, rfl, trivial⟩ ?_))
    refine run_loop (ι := {q : Nat // q ≤ l.length}) (fun zz => [(0, .slice ad (List.length l) cap), (7, .int .i64 (zz.1 : Int))]) (fun _ => _) (fun _ => _) (fun zz => l.length - zz.1) ⟨0, by simp⟩ ?_
    rintro ⟨i, hk⟩
    refine ok_fr [(0, .slice ad (List.length l) cap), (7, .int .i64 (i : Int))] ⟨rfl, rfl, trivial⟩ ?_
    refine run_seq (run_seq (run_region (ops_val (yld_move rfl) rfl (ops_val (yld_move rfl) rfl (ops_val (yld_lenS Tryz.runUnderlying22 rfl) rfl ?_)))))
    refine ops_valB (yld_lss rfl rfl) rfl fun r3 hr3 => ?_
    refine ops_nil (fin_next rfl ?_)
    cases r3
    ·
     replace hr3 := of_decide_eq_false hr3
     refine run_cond_f rfl (run_exit rfl (fin_next rfl (run_seq (run_region (ops_val (yld_assign rfl) rfl (ops_nil (fin_next rfl ?_)))))))
     refine run_ret ?_
     exact ret1 Tryz.results4 () rfl pf_nil (fun _ _ _ => trivial)
    ·
     replace hr3 := of_decide_eq_true hr3
     have hlx1 : i < List.length l := by omega
     obtain ⟨x1, hx1⟩ : ∃ e0, l[i]? = some e0 := ⟨_, List.getElem?_eq_getElem hlx1⟩
     have hmx1 : x1 ∈ l := List.mem_of_getElem? hx1
     refine run_cond_t rfl (run_skip (fin_next rfl (run_seq (run_block (run_seq (run_region (ops_val (yld_move rfl) rfl ?_)))))))
     refine ops_val (yld_move rfl) rfl (ops_val (yld_indexR Tryz.runUnderlying22 Tryz.sizeOf41 rfl rfl (fun v _ h => row_adr (n := 16) Ax.cells_len (by decide) (by exact h.2.2.1.1) hx1) (by omega) (by first | omega | (simp; done))) rfl ?_)
     refine ops_val (yld_fieldR Tryz.runUnderlying41 rfl rfl rfl Tryz.sizeOf38) rfl ?_
     refine ops_val (yld_loadRS (ad := ad) (us := Con.cells (Ax.right x1)) Tryz.isAgg38 Tryz.sizeOf38 rfl (fun v _ h => by exact h.2.2.1.1) rfl (sub_cells 7 (row_cells Ax.cells_len hx1) (Ax.right_cells x1))) rfl ?_
     refine ops_call (nAtom_c (Ax.right x1) (hok x1 hmx1).right) rfl pf_nil (fun v _ h => by exact ⟨(h.2.2.1.2 x1 hmx1).2.1, h.2.2.2.1, trivial⟩) rfl fun _ => ?_
     refine ops_val (yld_move rfl) rfl (ops_val (yld_extract rfl rfl) rfl ?_)
     refine ops_val (yld_extract rfl rfl) rfl ?_
     refine ops_val (yld_assign rfl) rfl (ops_val (yld_assign rfl) rfl (ops_nil (fin_next rfl (run_seq (run_region (ops_val (yld_move rfl) rfl (ops_val (yld_move rfl) rfl ?_)))))))
     refine ops_val (yld_indexR Tryz.runUnderlying22 Tryz.sizeOf41 rfl rfl (fun v _ h => row_adr (n := 16) Ax.cells_len (by decide) (by exact h.2.2.1.1) hx1) (by omega) (by first | omega | (simp; done))) rfl ?_
     refine ops_val (yld_fieldR Tryz.runUnderlying41 rfl rfl rfl Tryz.sizeOf38) rfl ?_
     refine ops_val (yld_loadRS (ad := ad) (us := Con.cells (Ax.right x1)) Tryz.isAgg38 Tryz.sizeOf38 rfl (fun v _ h => by exact h.2.2.1.1) rfl (sub_cells 7 (row_cells Ax.cells_len hx1) (Ax.right_cells x1))) rfl ?_
     refine ops_call (rAtomRef_c (Ax.right x1) (hok x1 hmx1).right (by have := (hfw x1 hmx1).right; omega)) rfl pf_nil (fun v _ h => by exact ⟨(h.2.2.1.2 x1 hmx1).2.1, trivial⟩) rfl fun _ => ?_
     refine ops_val (yld_move rfl) rfl (ops_val (yld_extract rfl rfl) rfl ?_)
     refine ops_val (yld_extract rfl rfl) rfl ?_
     refine ops_val (yld_assign rfl) rfl (ops_val (yld_assign rfl) rfl (ops_nil (fin_next rfl (run_seq (run_region (ops_val (yld_move rfl) rfl (ops_val (yld_move rfl) rfl ?_)))))))
     refine ops_valB (yld_sneq rfl rfl) rfl fun r4 hr4 => ?_
     refine ops_val (yld_move rfl) rfl ?_
     cases r4
     ·
      replace hr4 := eq_of_bne hr4
      refine ops_yes rfl rfl (ops_val (yld_move rfl) rfl (ops_yes rfl rfl (ops_val (yld_move rfl) rfl (ops_yes rfl rfl (ops_valB (yld_neq rfl rfl) rfl fun r5 hr5 => ?_)))))
      refine ops_val (yld_pick_f rfl rfl) rfl ?_
      refine ops_nil (fin_next rfl ?_)
      cases r5
      ·
       replace hr5 := eq_of_bne hr5
       refine run_cond_f rfl (run_skip (fin_next rfl (run_region (ops_val (yld_move rfl) rfl (ops_val (yld_arith rfl rfl rfl (wrap64 (by omega) (by omega))) rfl ?_)))))
       refine ops_val (yld_assign rfl) rfl (ops_nil (fin_inv rfl ?_))
       exact ok_again ⟨i + 1, hlx1⟩ (by dsimp only; omega) ⟨rfl, rfl, trivial⟩ (.refl _) (fun _ _ h => h)
      ·
       replace hr5 := ne_of_bne hr5
       exact absurd rfl hr5
     ·
      replace hr4 := ne_of_bne hr4
      exact absurd rfl hr4
  ·
   replace hr1 := ne_of_bne hr1
   exact absurd rfl hr1

end Go.Proofs.YtoafjmalfclpoaaGreatDoor
