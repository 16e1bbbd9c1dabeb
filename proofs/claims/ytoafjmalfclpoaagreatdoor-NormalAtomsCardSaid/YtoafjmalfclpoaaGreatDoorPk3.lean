/-
  Part of the proofs over this seat: the small logic, the data, the contracts of functions (no condition).
-/
import Derived.Test.YtoafjmalfclpoaaGreatDoorPk1
import Derived.Test.YtoafjmalfclpoaaGreatDoorPk2
import Derived.Test.YtoafjmalfclpoaaGreatDoorProg
set_option linter.unusedVariables false
set_option linter.unusedSimpArgs false
set_option linter.unusedSectionVars false
/-
  My own contracts.
-/
namespace Go.Proofs.YtoafjmalfclpoaaGreatDoor
open Go Go.Sx Go.Proofs
set_option linter.unusedVariables false
attribute [local irreducible] Code.wp wpList wpAnyH

open Go.Vs
theorem visit_c {σ τ : Type} {l : Nat} {Gj : σ → Hp} {Gx : τ → Hp} {stp : Con → σ → σ ⊕ τ} {E : List Fct} {good : Con → Prop} (hgood : ∀ c p, good c → p ∈ c.parts → good p)
  (hY : ∀ s x, x.ok → good x → YTri Tryz.prog l x.val (Gj s) (x.memF :: E) (fun _ : Unit => .bool (stp x s).isLeft) (fun _ => hpOf Gj Gx (stp x s)) (fun _ => [])) :
  ∀ (m : Nat) (c : Con), c.sz ≤ m → c.ok → good c → ∀ (s : σ) r, Con.fold stp c s = r →
  Tri Tryz.prog 136 #[c.val, .func (.yield l) #[] #[]] (Gj s) (c.memF :: E) (fun _ : Unit => .bool r.isLeft) (fun _ => hpOf Gj Gx r) (fun _ => []) := by
 intro m
 induction m with
 | zero => intro c h; have := c.sz_pos; omega
 | succ m ih =>
  intro c hm hok hg s r hr
  obtain ⟨k, nm, lo, hi, ad, cap, ps⟩ := c
  have hlen := Con.ok_len hok
  simp only [Con.parts, Con.cap] at hlen
  have hgp : ∀ p ∈ ps, good p := fun p hp => hgood _ p hg hp
  refine tri_of_body Tryz.func136 rfl rfl Tryz.ntmps136 rfl fun v0 => ?_
  refine run_seq (run_region (ops_box rfl rfl fun b1 => ?_))
  refine ops_val (yld_assign rfl) rfl (ops_nil (fin_next rfl (run_seq (run_seq ?_))))
  rcases hfc : stp (.mk k nm lo hi ad cap ps) s with s1 | t1
  ·
   refine run_yreg (ι := Unit) (fun _ => [(1, .func (.yield l) #[] #[]), (2, .pointer (some ⟨b1, 0, none⟩)), (10, .bool false)]) (fun _ => (b1, .cells (Con.mk k nm lo hi ad cap ps).cells.toArray 38 (0, 0)) :: Gj s1) (fun _ => [(Con.mk k nm lo hi ad cap ps).memF] ++ E) ?_ fun _ => ?_
   ·
    refine runI_region ?_
    refine opsI_val opn_wide (yld_move rfl) rfl rfl ?_
    refine opsI_val opn_wide (yld_loadC (c := .mk k nm lo hi ad cap ps) 0 Tryz.isAgg38 Tryz.sizeOf38 rfl rfl) rfl rfl ?_
    refine opsI_yield (hY s _ hok hg) rfl rfl (@List.perm_append_comm _ [_] _) (fun v _ h => h) rfl fun _ => ?_
    rw [hfc]
    refine opsI_val opn_wide (yld_not rfl) rfl rfl ?_
    refine opsI_nil ?_
    refine finI_end rfl ?_
    exact midI_done () ⟨rfl, rfl, rfl, trivial⟩ (F := []) (by rw [List.append_nil]; exact @List.perm_append_comm _ _ [_]) (fun _ _ h => h)
   ·
    refine fin_next rfl (run_cond_f rfl (run_skip (fin_next rfl (run_seq (run_seq (run_region (ops_val (yld_field Tryz.runUnderlying38 rfl rfl rfl Tryz.sizeOf36) rfl ?_)))))))
    refine ops_val (yld_load 0 Tryz.isAgg36 rfl rfl rfl) rfl ?_
    refine ops_val (yld_lenS Tryz.runUnderlying36 rfl) rfl ?_
    refine ops_val (yld_move rfl) rfl (ops_nil (fin_next rfl (run_block (ok_fr [(1, .func (.yield l) #[] #[]), (12, .slice ad ps.length cap), (13, .int .i64 (ps.length : Int)), (14, .int .i64 ((0 : Nat) : Int))] ⟨rfl, rfl, rfl, rfl, trivial⟩ ?_))))
    refine run_loop (ι := {q : Nat × σ // q.1 ≤ ps.length ∧ Con.fold.folds stp (ps.take q.1) s1 = .inl q.2}) (fun i => [(1, .func (.yield l) #[] #[]), (12, .slice ad ps.length cap), (13, .int .i64 (ps.length : Int)), (14, .int .i64 (i.1.1 : Int))]) (fun i => _ :: Gj i.1.2) (fun _ => _) (fun i => ps.length - i.1.1) ⟨(0, s1), by simp [Con.fold.folds]⟩ ?_
    rintro ⟨⟨i, m1⟩, hk⟩
    refine ok_fr [(1, .func (.yield l) #[] #[]), (12, .slice ad ps.length cap), (13, .int .i64 (ps.length : Int)), (14, .int .i64 (i : Int))] ⟨rfl, rfl, rfl, rfl, trivial⟩ ?_
    refine run_seq (run_region (ops_valB (yld_lss rfl rfl) rfl fun r1 hr1 => ?_))
    refine ops_nil (fin_next rfl (run_seq ?_))
    cases r1
    ·
     replace hr1 := of_decide_eq_false hr1
     try dsimp only [Con.kind, Con.parts, Con.name, Con.lo, Con.hi, Con.cap, Con.ad] at hr1
     refine run_cond_f rfl (run_exit rfl (fin_next rfl (run_seq (run_region (ops_val (yld_assign rfl) rfl (ops_nil (fin_next rfl ?_)))))))
     refine run_ret ?_
     obtain rfl : r = .inl m1 := by rw [← hr, Con.fold_eq, hfc]; exact Con.folds_yes (show ps.length ≤ i by omega) hk.2
     exact ret1 Tryz.results136 () rfl (@List.perm_append_comm _ [_] _) (fun _ _ _ => trivial)
    ·
     replace hr1 := of_decide_eq_true hr1
     try dsimp only [Con.kind, Con.parts, Con.name, Con.lo, Con.hi, Con.cap, Con.ad] at hr1
     have hlt : i < ps.length := by omega
     obtain ⟨p, hp⟩ : ∃ p, ps[i]? = some p := ⟨_, List.getElem?_eq_getElem hlt⟩
     have hpm : p ∈ ps := List.mem_of_getElem? hp
     refine run_cond_t rfl (run_skip (fin_next rfl (run_seq (run_block (run_seq (run_region (ops_val (yld_indexR Tryz.runUnderlying36 Tryz.sizeOf38 rfl rfl (fun v _ h => Con.row_addr (c := .mk k nm lo hi ad cap ps) h.1 hp) (by omega) (by omega)) rfl ?_)))))))
     refine ops_val (yld_loadRS (us := p.cells) Tryz.isAgg38 Tryz.sizeOf38 rfl (fun v _ h => ((Con.mem_iff (.mk k nm lo hi ad cap ps) v).1 h.1).1) p.cells_len (Con.part_cells (c := .mk k nm lo hi ad cap ps) (i := i) hp)) rfl ?_
     refine ops_alloc Tryz.zeroValue38 rfl fun b2 => ?_
     refine ops_storeC 0 Tryz.sizeOf38 rfl rfl rfl rfl ?_
     refine ops_nil (fin_next rfl (run_seq ?_))
     rcases hfp : Con.fold stp p m1 with m2 | t2
     ·
      refine run_region (ops_val (yld_loadC 0 Tryz.isAgg38 Tryz.sizeOf38 rfl rfl) rfl ?_)
      refine ops_val (yld_move rfl) rfl (ops_call (ih p (by have := Con.sz_part (c := .mk k nm lo hi ad cap ps) hpm; omega) (Con.ok_part (c := .mk k nm lo hi ad cap ps) hok hpm) (hgp p hpm) m1 _ hfp) rfl (@List.perm_append_comm _ [_, _] _) (fun v _ h => ⟨Con.mem_part (c := .mk k nm lo hi ad cap ps) h.1 hpm, h.2⟩) rfl fun _ => ?_)
      refine ok_perm (@List.perm_append_comm _ _ [_, _]) ?_
      refine ops_val (yld_not rfl) rfl ?_
      refine ops_nil (fin_next rfl (run_cond_f rfl (run_skip (fin_next rfl (run_region (ops_val (yld_arith rfl rfl rfl (wrap64 (by omega) (by omega))) rfl ?_))))))
      refine ops_val (yld_move rfl) rfl (ops_nil (fin_inv rfl ?_))
      exact ok_again ⟨(i + 1, m2), hlt, Con.folds_step hp hk.2 hfp⟩ (by simp; omega) ⟨rfl, rfl, rfl, rfl, trivial⟩ (F := [_]) (@List.perm_append_comm _ [_] _) (fun _ _ h => h)
     ·
      refine run_region (ops_val (yld_loadC 0 Tryz.isAgg38 Tryz.sizeOf38 rfl rfl) rfl ?_)
      refine ops_val (yld_move rfl) rfl (ops_call (ih p (by have := Con.sz_part (c := .mk k nm lo hi ad cap ps) hpm; omega) (Con.ok_part (c := .mk k nm lo hi ad cap ps) hok hpm) (hgp p hpm) m1 _ hfp) rfl (@List.perm_append_comm _ [_, _] _) (fun v _ h => ⟨Con.mem_part (c := .mk k nm lo hi ad cap ps) h.1 hpm, h.2⟩) rfl fun _ => ?_)
      refine ok_perm (@List.perm_append_comm _ _ [_, _]) ?_
      refine ops_val (yld_not rfl) rfl ?_
      refine ops_nil (fin_next rfl (run_cond_t rfl (run_seq (run_region (ops_val (yld_assign rfl) rfl (ops_nil (fin_next rfl ?_)))))))
      refine run_ret ?_
      obtain rfl : r = .inr t2 := by rw [← hr, Con.fold_eq, hfc]; exact Con.folds_no hp hk.2 hfp
      exact ret1 Tryz.results136 () rfl (@List.perm_append_comm _ [_, _] _) (fun _ _ _ => trivial)
  ·
   refine run_yreg (ι := Unit) (fun _ => [(1, .func (.yield l) #[] #[]), (2, .pointer (some ⟨b1, 0, none⟩)), (10, .bool true)]) (fun _ => (b1, .cells (Con.mk k nm lo hi ad cap ps).cells.toArray 38 (0, 0)) :: Gx t1) (fun _ => [(Con.mk k nm lo hi ad cap ps).memF] ++ E) ?_ fun _ => ?_
   ·
    refine runI_region ?_
    refine opsI_val opn_wide (yld_move rfl) rfl rfl ?_
    refine opsI_val opn_wide (yld_loadC (c := .mk k nm lo hi ad cap ps) 0 Tryz.isAgg38 Tryz.sizeOf38 rfl rfl) rfl rfl ?_
    refine opsI_yield (hY s _ hok hg) rfl rfl (@List.perm_append_comm _ [_] _) (fun v _ h => h) rfl fun _ => ?_
    rw [hfc]
    refine opsI_val opn_wide (yld_not rfl) rfl rfl ?_
    refine opsI_nil ?_
    refine finI_end rfl ?_
    exact midI_done () ⟨rfl, rfl, rfl, trivial⟩ (F := []) (by rw [List.append_nil]; exact @List.perm_append_comm _ _ [_]) (fun _ _ h => h)
   ·
    refine fin_next rfl (run_cond_t rfl (run_seq (run_region (ops_val (yld_assign rfl) rfl (ops_nil (fin_next rfl (run_ret ?_)))))))
    obtain rfl : r = .inr t1 := by rw [← hr, Con.fold_eq, hfc]
    exact ret1 Tryz.results136 () rfl (@List.perm_append_comm _ [_] _) (fun _ _ _ => trivial)

theorem walk_c (c : Con) :
    Tri Tryz.prog 87 #[c.val] [] [] (fun b : Nat => .func (.func 135) #[] #[.pointer (some ⟨b, 0, none⟩)]) (fun b => [(b, .cells c.cells.toArray 38 (0, 0))]) (fun _ => []) := by
  refine tri_of_body Tryz.func87 rfl rfl Tryz.ntmps87 rfl fun v0 => ?_
  refine run_seq (run_region (ops_box rfl rfl fun b1 => ?_))
  refine ops_val (yld_assign rfl) rfl (ops_nil (fin_next rfl (run_seq (run_region (ops_val (yld_func rfl rfl) rfl ?_)))))
  refine ops_val (yld_assign rfl) rfl (ops_nil (fin_next rfl (run_ret ?_)))
  exact ret1 Tryz.results87 b1 rfl (F := []) (.refl _) (fun _ _ _ => trivial)

theorem walk1_c {σ τ : Type} {l b : Nat} {Gj : σ → Hp} {Gx : τ → Hp} {stp : Con → σ → σ ⊕ τ} {E : List Fct} {good : Con → Prop} (hgood : ∀ c p, good c → p ∈ c.parts → good p)
    (hY : ∀ s x, x.ok → good x → YTri Tryz.prog l x.val (Gj s) (x.memF :: E) (fun _ : Unit => .bool (stp x s).isLeft) (fun _ => hpOf Gj Gx (stp x s)) (fun _ => []))
    (c : Con) (hok : c.ok) (hg : good c) (s : σ) :
    Tri Tryz.prog 135 #[.func (.yield l) #[] #[], .pointer (some ⟨b, 0, none⟩)] ((b, .cells c.cells.toArray 38 (0, 0)) :: Gj s) (c.memF :: E) (fun _ : Unit => .tuple #[]) (fun _ => (b, .cells c.cells.toArray 38 (0, 0)) :: hpOf Gj Gx (Con.fold stp c s)) (fun _ => []) := by
  refine tri_of_body Tryz.func135 rfl rfl Tryz.ntmps135 rfl fun v0 => ?_
  refine run_region (ops_val (yld_loadC (c := c) 0 Tryz.isAgg38 Tryz.sizeOf38 rfl rfl) rfl ?_)
  refine ops_val (yld_move rfl) rfl (ops_call (visit_c hgood hY _ c (Nat.le_refl _) hok hg s _ rfl) rfl (@List.perm_append_comm _ [_] _) (fun v _ h => h) rfl fun _ => ?_)
  refine ops_nil (fin_end rfl ?_)
  exact end0 Tryz.results135 () rfl (F := []) (by rw [List.append_nil]; exact @List.perm_append_comm _ _ [_]) (fun _ _ _ => trivial)

theorem checkConcept_c (c : Con) (hok : c.ok) : Tri Tryz.prog 44 #[c.val] [] [c.memF, tabs] (fun _ : Unit => .int .i64 c.check) (fun _ => []) (fun _ => []) := by
  obtain ⟨k, nm, lo, hi, ad, cap, ps⟩ := c
  refine tri_of_bodyM Tryz.func44 rfl rfl Tryz.ntmps44 rfl fun v0 => ?_
  refine run_seq (run_region (ops_box rfl rfl fun b1 => ?_))
  refine ops_alloc Tryz.zeroValue26 rfl fun b2 => ?_
  refine ops_nil (fin_next rfl (run_seq (run_region (ops_alloc Tryz.zeroValue3 rfl fun b3 => ?_))))
  refine ops_store 0 Tryz.sizeOf3 rfl rfl rfl rfl rfl rfl ?_
  refine ops_nil (fin_next rfl (run_seq (run_seq (run_region (ops_val (yld_loadS 2 Tryz.isAgg38 Tryz.sizeOf38 rfl rfl rfl) rfl ?_)))))
  refine ops_call1B 0 (fits_c _ (.mk k nm lo hi ad cap ps) (Nat.le_refl _) hok 0 0 b3 (by omega) (by omega) _ rfl) rfl rfl (fun v _ h => ⟨h.1, trivial⟩) rfl fun r1 hr1 => ?_
  refine ops_val (yld_not rfl) rfl ?_
  refine ops_nil (fin_next rfl ?_)
  cases r1
  · skip
    try dsimp only [Con.kind, Con.parts, Con.name, Con.lo, Con.hi, Con.cap, Con.ad] at hr1
    refine run_cond_t rfl (run_seq (run_region (ops_store 1 Tryz.sizeOf26 rfl rfl rfl rfl rfl rfl ?_)))
    refine ops_nil (fin_next rfl (run_ret ?_))
    exact retM () (fun a v h1 h2 _ => by rw [res_cell 1 Tryz.results44 Tryz.isAgg26 rfl rfl a v h1 h2]; simp [Con.check, *]) (.refl _) (fun _ _ _ => trivial)
  · skip
    try dsimp only [Con.kind, Con.parts, Con.name, Con.lo, Con.hi, Con.cap, Con.ad] at hr1
    refine run_cond_f rfl (run_skip (fin_next rfl (run_seq (run_seq (run_region (ops_val (yld_loadS 2 Tryz.isAgg38 Tryz.sizeOf38 rfl rfl rfl) rfl ?_))))))
    refine ops_call (walk_c (.mk k nm lo hi ad cap ps)) rfl (.refl _) (fun _ _ _ => trivial) rfl fun b => ?_
    refine ops_nil (fin_next rfl (run_block (ok_fr [(2, .pointer (some ⟨b2, 0, none⟩)), (10, .func (.func 135) #[] #[.pointer (some ⟨b, 0, none⟩)])] ⟨rfl, rfl, trivial⟩ ?_)))
    refine ok_weak (H' := [_, _]) (F := [_, _]) (.cons _ (.swap _ _ _)) (fun _ _ h => h) ?_
    refine run_range (α := {c : Con // c.ok}) (xv := fun x => x.1.val) (good := fun _ => True) (stp := fun x => Con.chk x.1) (Γx := fun x => [x.1.memF, tabs]) (Γi := [Con.memF (.mk k nm lo hi ad cap ps), tabs]) (Hj := fun _ : Unit => [(b2, .cells #[.int .i64 0] 26 (0, 0))]) (Hx := fun t : Int => [(b2, .cells #[.int .i64 t] 26 (0, 0))]) (Hc := [(b, .cells (Con.mk k nm lo hi ad cap ps).cells.toArray 38 (0, 0))]) (caps := [.pointer (some ⟨b, 0, none⟩)]) () (Con.fold Con.chk (.mk k nm lo hi ad cap ps) ()) rfl (.refl _) (fun v _ h => h) ?_ ?_ ?_ ?_
    · rintro l D rec hp hst hpe ht hasg hbody s ⟨x, hx⟩ -
      refine ytri_round (ι := Nat) (Hj := fun _ : Unit => [(b2, .cells #[.int .i64 0] 26 (0, 0))]) (Hx := fun t : Int => [(b2, .cells #[.int .i64 t] 26 (0, 0))]) (s := s) (res := Con.chk x s) (Γ := [x.memF, tabs]) (fun b4 => [(2, .pointer (some ⟨b2, 0, none⟩)), (4, .pointer (some ⟨b4, 0, none⟩))]) (fun b4 => [(b4, .cells x.cells.toArray 38 (0, 0)), (b2, .cells #[.int .i64 0] 26 (0, 0))]) hp hst hpe ht rfl ?_ ?_
      · intro n v0 H0 HL
        rw [hasg]
        refine runI_region ?_
        refine opsI_alloc (opn_round _) Tryz.zeroValue38 rfl fun b4 => ?_
        refine opsI_storeC (opn_round _) 0 Tryz.sizeOf38 rfl rfl rfl rfl ?_
        refine opsI_nil ?_
        refine finI_end rfl ?_
        exact midI_done b4 ⟨rfl, rfl, trivial⟩ (F := []) (by rw [List.append_nil]; exact .refl _) (fun _ _ h => h)
      · intro n v0 H0 HL b4
        rw [hbody]
        refine runI_block ?_
        refine runI_seq ?_
        refine runI_region ?_
        refine opsI_val (opn_round _) (yld_loadC 0 Tryz.isAgg38 Tryz.sizeOf38 rfl rfl) rfl rfl ?_
        refine opsI_call (checkFields_c x hx) rfl (.refl _) (fun v _ h => ⟨h.2.1, trivial⟩) rfl fun _ => ?_
        refine opsI_val (opn_round _) (yld_assign rfl) rfl rfl ?_
        refine opsI_nil ?_
        refine finI_next rfl ?_
        refine runI_seq ?_
        refine runI_region ?_
        refine opsI_val (opn_round _) (yld_move rfl) rfl rfl ?_
        refine opsI_valB (opn_round _) (yld_neq rfl rfl) rfl rfl fun r2 hr2 => ?_
        refine opsI_nil ?_
        refine finI_next rfl ?_
        cases r2
        · skip
          replace hr2 := eq_of_bne hr2
          try dsimp only [Con.kind, Con.parts, Con.name, Con.lo, Con.hi, Con.cap, Con.ad] at hr2
          refine runI_cond_f rfl ?_
          refine runI_skip ?_
          refine finI_end rfl ?_
          exact round_end () (by simp [Con.chk, *]) (G := [_]) (@List.perm_append_comm _ [_] _)
        · skip
          replace hr2 := ne_of_bne hr2
          try dsimp only [Con.kind, Con.parts, Con.name, Con.lo, Con.hi, Con.cap, Con.ad] at hr2
          refine runI_cond_t rfl ?_
          refine runI_seq ?_
          refine runI_region ?_
          refine opsI_val (opn_round _) (yld_move rfl) rfl rfl ?_
          refine opsI_store (opn_round _) 1 Tryz.sizeOf26 rfl rfl rfl rfl rfl rfl ?_
          refine opsI_nil ?_
          refine finI_next rfl ?_
          refine runI_ret ?_
          exact round_ret x.fieldErr (by simp [Con.chk, *]) (G := [_]) (@List.perm_append_comm _ [_] _)
    · intro l Gj Gx hY
      exact walk1_c (E := [tabs]) (good := fun _ => True) (fun _ _ _ _ => trivial) (fun s x hx _ => hY s ⟨x, hx⟩ trivial) _ hok trivial ()
    · intro s hs D l r
      rw [Con.fold_chk _ _ (Nat.le_refl _)] at hs
      refine finI_next rfl ?_
      refine runI_seq ?_
      refine runI_region ?_
      refine opsI_store opn_wide 1 Tryz.sizeOf26 rfl rfl rfl rfl rfl rfl ?_
      refine opsI_nil ?_
      refine finI_next rfl ?_
      refine runI_ret ?_
      have hz : (0 : Int) = (Con.mk k nm lo hi ad cap ps).check := by unfold Con.check; rw [if_pos (by assumption)]; split at hs; (rename_i h; exact h.symm); cases hs
      exact retMD (G := [_, _, _]) () (fun a v h1 h2 => by rw [← hz]; exact res_cell 1 Tryz.results44 Tryz.isAgg26 rfl rfl a v h1 h2) (perm_at (i := 3) rfl) ⟨_, .refl _⟩ rfl
    · intro t hs D l r
      rw [Con.fold_chk _ _ (Nat.le_refl _)] at hs
      have hz : t = (Con.mk k nm lo hi ad cap ps).check := by unfold Con.check; rw [if_pos (by assumption)]; split at hs; cases hs; injection hs with hs; exact hs.symm
      exact retMD (G := [_, _, _]) () (fun a v h1 h2 => by rw [← hz]; exact res_cell 1 Tryz.results44 Tryz.isAgg26 rfl rfl a v h1 h2) (perm_at (i := 3) rfl) ⟨_, .refl _⟩ rfl

end Go.Proofs.YtoafjmalfclpoaaGreatDoor

/-
  My own contracts.
-/
namespace Go.Proofs.YtoafjmalfclpoaaGreatDoor
open Go Go.Sx Go.Proofs
set_option linter.unusedVariables false
attribute [local irreducible] Code.wp wpList wpAnyH

open Go.Vs
theorem isEmpty_c (c : Con) : Fn0 Tryz.prog 96 #[c.val] (.bool c.empty) := by
 obtain ⟨k, nm, lo, hi, ad, cap, ps⟩ := c
 refine tri_of_body Tryz.func96 rfl rfl Tryz.ntmps96 rfl fun v0 => ?_
 refine run_seq (run_region (ops_box rfl rfl fun b1 => ?_))
 refine ops_val (yld_assign rfl) rfl (ops_nil (fin_next rfl (run_seq (run_region (ops_val (yld_field Tryz.runUnderlying38 rfl rfl rfl Tryz.sizeOf3) rfl ?_)))))
 refine ops_val (yld_load 0 Tryz.isAgg3 rfl rfl rfl) rfl ?_
 refine ops_valB (yld_eql rfl rfl) rfl fun r1 hr1 => ?_
 refine ops_val (yld_move rfl) rfl ?_
 refine ops_cut 4 ((k == 0) && (nm == [])) (fun r => [(0, .agg #[.int .i64 k, str nm, .int .i64 lo, .int .i64 hi, .slice ad ps.length cap]), (1, .pointer (some ⟨b1, 0, none⟩)), (2, .bool false), (10, .bool r)]) ?_ fun r2 hr2 => ?_
 ·
  cases r1
  ·
   have qr2 := hr1
   replace hr1 := ne_of_beq_false hr1
   try dsimp only [Con.kind, Con.parts, Con.name, Con.lo, Con.hi, Con.cap, Con.ad] at hr1
   refine ops_no rfl rfl rfl rfl (ops_no rfl rfl rfl rfl (ops_no rfl rfl rfl rfl (ops_val (yld_pick_f rfl rfl) rfl ?_)))
   refine ops_nil (fin_inv rfl ?_)
   exact met ⟨rfl, rfl, rfl, (get_bool rfl (jaf qr2)), trivial⟩
  ·
   have qr2 := hr1
   replace hr1 := eq_of_beq hr1
   try dsimp only [Con.kind, Con.parts, Con.name, Con.lo, Con.hi, Con.cap, Con.ad] at hr1
   refine ops_yes rfl rfl (ops_val (yld_field Tryz.runUnderlying38 rfl rfl rfl Tryz.sizeOf9) rfl ?_)
   refine ops_yes rfl rfl (ops_val (yld_load 0 Tryz.isAgg9 rfl rfl rfl) rfl ?_)
   refine ops_yes rfl rfl (ops_valB (yld_seql rfl rfl) rfl fun r3 hr3 => ?_)
   refine ops_val (yld_pick_t rfl rfl) rfl ?_
   refine ops_nil (fin_inv rfl ?_)
   exact met ⟨rfl, rfl, rfl, (get_bool rfl (jat qr2 hr3)), trivial⟩
 ·
  refine ops_val (yld_move rfl) rfl ?_
  refine ops_cut 4 ((((k == 0) && (nm == []))) && (lo == 0)) (fun r => [(0, .agg #[.int .i64 k, str nm, .int .i64 lo, .int .i64 hi, .slice ad ps.length cap]), (1, .pointer (some ⟨b1, 0, none⟩)), (2, .bool false), (15, .bool r)]) ?_ fun r4 hr4 => ?_
  ·
   cases r2
   ·
    have qr4 := hr2
    simp at hr2
    try dsimp only [Con.kind, Con.parts, Con.name, Con.lo, Con.hi, Con.cap, Con.ad] at hr2
    refine ops_no rfl rfl rfl rfl (ops_no rfl rfl rfl rfl (ops_no rfl rfl rfl rfl (ops_val (yld_pick_f rfl rfl) rfl ?_)))
    refine ops_nil (fin_inv rfl ?_)
    exact met ⟨rfl, rfl, rfl, (get_bool rfl (jaf qr4)), trivial⟩
   ·
    have qr4 := hr2
    simp at hr2
    try dsimp only [Con.kind, Con.parts, Con.name, Con.lo, Con.hi, Con.cap, Con.ad] at hr2
    refine ops_yes rfl rfl (ops_val (yld_field Tryz.runUnderlying38 rfl rfl rfl Tryz.sizeOf3) rfl ?_)
    refine ops_yes rfl rfl (ops_val (yld_load 0 Tryz.isAgg3 rfl rfl rfl) rfl ?_)
    refine ops_yes rfl rfl (ops_valB (yld_eql rfl rfl) rfl fun r5 hr5 => ?_)
    refine ops_val (yld_pick_t rfl rfl) rfl ?_
    refine ops_nil (fin_inv rfl ?_)
    exact met ⟨rfl, rfl, rfl, (get_bool rfl (jat qr4 hr5)), trivial⟩
  ·
   refine ops_val (yld_move rfl) rfl ?_
   refine ops_cut 4 ((((((k == 0) && (nm == []))) && (lo == 0))) && (hi == 0)) (fun r => [(0, .agg #[.int .i64 k, str nm, .int .i64 lo, .int .i64 hi, .slice ad ps.length cap]), (1, .pointer (some ⟨b1, 0, none⟩)), (2, .bool false), (20, .bool r)]) ?_ fun r6 hr6 => ?_
   ·
    cases r4
    ·
     have qr6 := hr4
     simp at hr4
     try dsimp only [Con.kind, Con.parts, Con.name, Con.lo, Con.hi, Con.cap, Con.ad] at hr4
     refine ops_no rfl rfl rfl rfl (ops_no rfl rfl rfl rfl (ops_no rfl rfl rfl rfl (ops_val (yld_pick_f rfl rfl) rfl ?_)))
     refine ops_nil (fin_inv rfl ?_)
     exact met ⟨rfl, rfl, rfl, (get_bool rfl (jaf qr6)), trivial⟩
    ·
     have qr6 := hr4
     simp at hr4
     try dsimp only [Con.kind, Con.parts, Con.name, Con.lo, Con.hi, Con.cap, Con.ad] at hr4
     refine ops_yes rfl rfl (ops_val (yld_field Tryz.runUnderlying38 rfl rfl rfl Tryz.sizeOf3) rfl ?_)
     refine ops_yes rfl rfl (ops_val (yld_load 0 Tryz.isAgg3 rfl rfl rfl) rfl ?_)
     refine ops_yes rfl rfl (ops_valB (yld_eql rfl rfl) rfl fun r7 hr7 => ?_)
     refine ops_val (yld_pick_t rfl rfl) rfl ?_
     refine ops_nil (fin_inv rfl ?_)
     exact met ⟨rfl, rfl, rfl, (get_bool rfl (jat qr6 hr7)), trivial⟩
   ·
    refine ops_val (yld_move rfl) rfl ?_
    refine ops_cut 5 ((((((((k == 0) && (nm == []))) && (lo == 0))) && (hi == 0))) && ((ps.length : Int) == 0)) (fun r => [(0, .agg #[.int .i64 k, str nm, .int .i64 lo, .int .i64 hi, .slice ad ps.length cap]), (2, .bool false), (26, .bool r)]) ?_ fun r8 hr8 => ?_
    ·
     cases r6
     ·
      have qr8 := hr6
      simp at hr6
      try dsimp only [Con.kind, Con.parts, Con.name, Con.lo, Con.hi, Con.cap, Con.ad] at hr6
      refine ops_no rfl rfl rfl rfl (ops_no rfl rfl rfl rfl (ops_no rfl rfl rfl rfl (ops_no rfl rfl rfl rfl (ops_val (yld_pick_f rfl rfl) rfl ?_))))
      refine ops_nil (fin_inv rfl ?_)
      exact met ⟨rfl, rfl, (get_bool rfl (jaf qr8)), trivial⟩
     ·
      have qr8 := hr6
      simp at hr6
      try dsimp only [Con.kind, Con.parts, Con.name, Con.lo, Con.hi, Con.cap, Con.ad] at hr6
      refine ops_yes rfl rfl (ops_val (yld_field Tryz.runUnderlying38 rfl rfl rfl Tryz.sizeOf36) rfl ?_)
      refine ops_yes rfl rfl (ops_val (yld_load 0 Tryz.isAgg36 rfl rfl rfl) rfl ?_)
      refine ops_yes rfl rfl (ops_val (yld_lenS Tryz.runUnderlying36 rfl) rfl ?_)
      refine ops_yes rfl rfl (ops_valB (yld_eql rfl rfl) rfl fun r9 hr9 => ?_)
      refine ops_val (yld_pick_t rfl rfl) rfl ?_
      refine ops_nil (fin_inv rfl ?_)
      exact met ⟨rfl, rfl, (get_bool rfl (jat qr8 hr9)), trivial⟩
    ·
     refine ops_val (yld_assign rfl) rfl (ops_nil (fin_next rfl (run_ret ?_)))
     exact ret1 Tryz.results96 () (get_bool rfl hr8.symm) (.refl _) (fun _ _ _ => trivial)

theorem indexFuncC_c {g : FuncId} {pred : Con → Bool} (c : Con) (hok : c.ok) (hT : ∀ p ∈ c.parts, Tri Tryz.prog g #[p.val] [] [p.memF] (fun _ : Unit => .bool (pred p)) (fun _ => []) (fun _ => [])) :
  Tri Tryz.prog 141 #[.slice c.ad c.parts.length c.cap, .func (.func g) #[] #[]] [] [c.memF] (fun r : {r : Int // decide (0 ≤ r) = c.parts.any pred} => .int .i64 r.1) (fun _ => []) (fun _ => []) := by
 obtain ⟨k, nm, lo, hi, ad, cap, ps⟩ := c
 have hlen := Con.ok_len hok
 simp only [Con.parts, Con.cap] at hlen
 refine tri_of_body Tryz.func141 rfl rfl Tryz.ntmps141 rfl fun v0 => ?_
 refine run_seq (run_region (ops_val (yld_assign rfl) rfl (ops_nil (fin_next rfl (run_seq (run_seq (run_region ?_)))))))
 refine ops_val (yld_move rfl) rfl (ops_val (yld_lenS Tryz.runUnderlying36 rfl) rfl ?_)
 refine ops_val (yld_move rfl) rfl (ops_nil (fin_next rfl (run_block (ok_fr [(0, .slice ad ps.length cap), (1, .func (.func g) #[] #[]), (7, .int .i64 (ps.length : Int)), (8, .int .i64 ((0 : Nat) : Int))] ⟨rfl, rfl, rfl, rfl, trivial⟩ ?_))))
 refine run_loop (ι := {q : Nat // q ≤ ps.length ∧ (ps.take q).any pred = false}) (fun i => [(0, .slice ad ps.length cap), (1, .func (.func g) #[] #[]), (7, .int .i64 (ps.length : Int)), (8, .int .i64 (i.1 : Int))]) (fun _ => _) (fun _ => _) (fun i => ps.length - i.1) ⟨0, by simp⟩ ?_
 rintro ⟨i, hk⟩
 refine ok_fr [(0, .slice ad ps.length cap), (1, .func (.func g) #[] #[]), (7, .int .i64 (ps.length : Int)), (8, .int .i64 (i : Int))] ⟨rfl, rfl, rfl, rfl, trivial⟩ ?_
 refine run_seq (run_region (ops_valB (yld_lss rfl rfl) rfl fun r1 hr1 => ?_))
 refine ops_nil (fin_next rfl (run_seq ?_))
 cases r1
 ·
  replace hr1 := of_decide_eq_false hr1
  try dsimp only [Con.kind, Con.parts, Con.name, Con.lo, Con.hi, Con.cap, Con.ad] at hr1
  refine run_cond_f rfl (run_exit rfl (fin_next rfl (run_seq (run_region (ops_val (yld_assign rfl) rfl (ops_nil (fin_next rfl ?_)))))))
  refine run_ret ?_
  exact ret1 Tryz.results141 ⟨-1, by have := hk.2; rw [List.take_of_length_le (by omega)] at this; show _ = ps.any pred; rw [this]; rfl⟩ rfl (.refl _) (fun _ _ _ => trivial)
 ·
  replace hr1 := of_decide_eq_true hr1
  try dsimp only [Con.kind, Con.parts, Con.name, Con.lo, Con.hi, Con.cap, Con.ad] at hr1
  have hlt : i < ps.length := by omega
  obtain ⟨p, hp⟩ : ∃ p, ps[i]? = some p := ⟨_, List.getElem?_eq_getElem hlt⟩
  have hpm : p ∈ ps := List.mem_of_getElem? hp
  refine run_cond_t rfl (run_skip (fin_next rfl (run_seq (run_block (run_seq (run_region (ops_val (yld_move rfl) rfl ?_)))))))
  refine ops_val (yld_assign rfl) rfl (ops_nil (fin_next rfl (run_seq (run_region (ops_val (yld_move rfl) rfl (ops_val (yld_move rfl) rfl (ops_val (yld_move rfl) rfl ?_)))))))
  refine ops_val (yld_indexR Tryz.runUnderlying36 Tryz.sizeOf38 rfl rfl (fun v _ h => row_adr (n := 5) Con.cells_len (by decide) (((Con.mem_iff (.mk k nm lo hi ad cap ps) v).1 h.1).1) hp) (by omega) (by first | omega | (simp only [Con.parts]; omega) | (simp [Con.parts]; done))) rfl ?_
  refine ops_val (yld_loadRS (ad := ad) (us := p.cells) Tryz.isAgg38 Tryz.sizeOf38 rfl (fun v _ h => ((Con.mem_iff (.mk k nm lo hi ad cap ps) v).1 h.1).1) (Con.cells_len _) (row_cells Con.cells_len hp)) rfl ?_
  refine ops_calldB (hT p hpm) rfl rfl (.refl _) (fun v _ h => by exact ⟨Con.mem_part (c := (.mk k nm lo hi ad cap ps)) h.1 hpm, trivial⟩) rfl fun r2 hr2 => ?_
  refine ops_nil (fin_next rfl ?_)
  cases r2
  ·
   try dsimp only [Con.kind, Con.parts, Con.name, Con.lo, Con.hi, Con.cap, Con.ad] at hr2
   refine run_cond_f rfl (run_skip (fin_next rfl (run_region (ops_val (yld_arith rfl rfl rfl (wrap64 (by omega) (by omega))) rfl ?_))))
   refine ops_val (yld_move rfl) rfl (ops_nil (fin_inv rfl ?_))
   exact ok_again ⟨i + 1, hlt, by rw [Con.take_snoc hp, List.any_append, hk.2]; simp [*]⟩ (by simp; omega) ⟨rfl, rfl, rfl, rfl, trivial⟩ (.refl _) (fun _ _ h => h)
  ·
   try dsimp only [Con.kind, Con.parts, Con.name, Con.lo, Con.hi, Con.cap, Con.ad] at hr2
   refine run_cond_t rfl (run_seq (run_region (ops_val (yld_move rfl) rfl (ops_val (yld_assign rfl) rfl (ops_nil (fin_next rfl (run_ret ?_)))))))
   exact ret1 Tryz.results141 ⟨(i : Int), by show _ = ps.any pred; rw [show ps.any pred = true from List.any_eq_true.2 ⟨p, hpm, by assumption⟩]; exact decide_eq_true (by omega)⟩ rfl (.refl _) (fun _ _ _ => trivial)

theorem containsFuncC_c {g : FuncId} {pred : Con → Bool} (c : Con) (hok : c.ok) (hT : ∀ p ∈ c.parts, Tri Tryz.prog g #[p.val] [] [p.memF] (fun _ : Unit => .bool (pred p)) (fun _ => []) (fun _ => [])) :
    Tri Tryz.prog 97 #[.slice c.ad c.parts.length c.cap, .func (.func g) #[] #[]] [] [c.memF] (fun _ : Unit => .bool (c.parts.any pred)) (fun _ => []) (fun _ => []) := by
  obtain ⟨k, nm, lo, hi, ad, cap, ps⟩ := c
  refine tri_of_body Tryz.func97 rfl rfl Tryz.ntmps97 rfl fun v0 => ?_
  refine run_seq (run_region (ops_val (yld_assign rfl) rfl (ops_nil (fin_next rfl (run_seq (run_region (ops_val (yld_move rfl) rfl ?_)))))))
  refine ops_val (yld_move rfl) rfl (ops_call (indexFuncC_c (.mk k nm lo hi ad cap ps) hok hT) rfl (.refl _) (fun v _ h => h) rfl fun x => ?_)
  refine ops_valB (yld_geq rfl rfl) rfl fun r1 hr1 => ?_
  refine ops_val (yld_assign rfl) rfl (ops_nil (fin_next rfl (run_ret ?_)))
  exact ret1 Tryz.results97 () (get_bool rfl (hr1.symm.trans x.2)) (.refl _) (fun _ _ _ => trivial)

theorem isBare_c : ∀ (m : Nat) (c : Con), c.sz ≤ m → c.ok → Tri Tryz.prog 56 #[c.val] [] [c.memF] (fun _ : Unit => .bool c.bare) (fun _ => []) (fun _ => []) := by
 intro m
 induction m with
 | zero => intro c h; have := c.sz_pos; omega
 | succ m ih =>
  intro c hm hok
  obtain ⟨k, nm, lo, hi, ad, cap, ps⟩ := c
  refine tri_of_body Tryz.func56 rfl rfl Tryz.ntmps56 rfl fun v0 => ?_
  refine run_seq (run_region (ops_box rfl rfl fun b1 => ?_))
  refine ops_val (yld_assign rfl) rfl (ops_nil (fin_next rfl (run_seq (run_seq (run_region (ops_val (yld_field Tryz.runUnderlying38 rfl rfl rfl Tryz.sizeOf3) rfl ?_))))))
  refine ops_val (yld_load 0 Tryz.isAgg3 rfl rfl rfl) rfl ?_
  refine ops_nil (fin_next rfl (run_block (run_seq (run_region (ops_valB (yld_eql rfl rfl) rfl fun r1 hr1 => ?_)))))
  refine ops_val (yld_assign rfl) rfl (ops_nil (fin_next rfl ?_))
  cases r1
  ·
   replace hr1 := ne_of_beq_false hr1
   try dsimp only [Con.kind, Con.parts, Con.name, Con.lo, Con.hi, Con.cap, Con.ad] at hr1
   refine run_cond_f rfl (run_seq (run_region (ops_valB (yld_eql rfl rfl) rfl fun r2 hr2 => ?_)))
   refine ops_val (yld_assign rfl) rfl (ops_nil (fin_next rfl ?_))
   cases r2
   ·
    replace hr2 := ne_of_beq_false hr2
    try dsimp only [Con.kind, Con.parts, Con.name, Con.lo, Con.hi, Con.cap, Con.ad] at hr2
    refine run_cond_f rfl (run_skip (fin_next rfl (run_seq (run_region (ops_val (yld_assign rfl) rfl (ops_nil (fin_next rfl ?_)))))))
    refine run_ret ?_
    exact ret1 Tryz.results56 () (get_bool rfl (by rw [Con.bare_eq]; simp only [Con.kind, Con.parts] at *; simp [*])) (.refl _) (fun _ _ _ => trivial)
   ·
    replace hr2 := eq_of_beq hr2
    try dsimp only [Con.kind, Con.parts, Con.name, Con.lo, Con.hi, Con.cap, Con.ad] at hr2
    refine run_cond_t rfl (run_seq (run_region (ops_val (yld_field Tryz.runUnderlying38 rfl rfl rfl Tryz.sizeOf36) rfl ?_)))
    refine ops_val (yld_load 0 Tryz.isAgg36 rfl rfl rfl) rfl ?_
    refine ops_callB (containsFuncC_c (pred := Con.bare) (.mk k nm lo hi ad cap ps) hok (fun p hp => ih p (by have := Con.sz_part (c := (.mk k nm lo hi ad cap ps)) hp; omega) (Con.ok_part (c := (.mk k nm lo hi ad cap ps)) hok hp))) rfl (.refl _) (fun v _ h => h) rfl fun r3 hr3 => ?_
    refine ops_val (yld_assign rfl) rfl (ops_nil (fin_next rfl (run_ret ?_)))
    exact ret1 Tryz.results56 () (get_bool rfl (by rw [Con.bare_eq]; simp only [Con.kind, Con.parts] at *; simp [*])) (.refl _) (fun _ _ _ => trivial)
  ·
   replace hr1 := eq_of_beq hr1
   try dsimp only [Con.kind, Con.parts, Con.name, Con.lo, Con.hi, Con.cap, Con.ad] at hr1
   refine run_cond_t rfl (run_seq (run_region (ops_val (yld_assign rfl) rfl (ops_nil (fin_next rfl (run_ret ?_))))))
   exact ret1 Tryz.results56 () (get_bool rfl (by rw [Con.bare_eq]; simp only [Con.kind, Con.parts] at *; simp [*])) (.refl _) (fun _ _ _ => trivial)

theorem isShaped_c (x : Ax) : Tri Tryz.prog 54 #[x.val] [] [tabs] (fun _ : Unit => .bool x.shaped) (fun _ => []) (fun _ => []) := by
 obtain ⟨k, op, ⟨kl, nl, ll, hl, al, cl, pl⟩, ⟨kr, nr, lr, hr, ar, cr, pr⟩, ad, cap, rs, ro, a, b⟩ := x
 refine tri_of_body Tryz.func54 rfl rfl Tryz.ntmps54 rfl fun v0 => ?_
 refine run_seq (run_region (ops_box rfl rfl fun b1 => ?_))
 refine ops_val (yld_assign rfl) rfl (ops_nil (fin_next rfl (run_seq (run_seq (run_region (ops_val (yld_field Tryz.runUnderlying41 rfl rfl rfl Tryz.sizeOf3) rfl ?_))))))
 refine ops_val (yld_load 0 Tryz.isAgg3 rfl rfl rfl) rfl ?_
 refine ops_valB (yld_lss rfl rfl) rfl fun r1 hr1 => ?_
 refine ops_val (yld_move rfl) rfl ?_
 refine ops_cut 4 ((decide (k < 1)) || (decide (9 < k))) (fun r => [(0, .agg #[.int .i64 k, .bool op, .int .i64 kl, str nl, .int .i64 ll, .int .i64 hl, .slice al pl.length cl, .int .i64 kr, str nr, .int .i64 lr, .int .i64 hr, .slice ar pr.length cr, .slice ad rs.length cap, str ro, str a, str b]), (1, .pointer (some ⟨b1, 0, none⟩)), (2, .bool false), (11, .bool r)]) ?_ fun r2 hr2 => ?_
 ·
  cases r1
  ·
   have qr2 := hr1
   replace hr1 := of_decide_eq_false hr1
   try dsimp only [Con.kind, Con.parts, Con.name, Con.lo, Con.hi, Con.cap, Con.ad] at hr1
   refine ops_yes rfl rfl (ops_val (yld_field Tryz.runUnderlying41 rfl rfl rfl Tryz.sizeOf3) rfl ?_)
   refine ops_yes rfl rfl (ops_val (yld_load 0 Tryz.isAgg3 rfl rfl rfl) rfl ?_)
   refine ops_yes rfl rfl (ops_valB (yld_gtr rfl rfl) rfl fun r3 hr3 => ?_)
   refine ops_val (yld_pick_f rfl rfl) rfl ?_
   refine ops_nil (fin_inv rfl ?_)
   exact met ⟨rfl, rfl, rfl, (get_bool rfl (jof qr2 hr3)), trivial⟩
  ·
   have qr2 := hr1
   replace hr1 := of_decide_eq_true hr1
   try dsimp only [Con.kind, Con.parts, Con.name, Con.lo, Con.hi, Con.cap, Con.ad] at hr1
   refine ops_no rfl rfl rfl rfl (ops_no rfl rfl rfl rfl (ops_no rfl rfl rfl rfl (ops_val (yld_pick_t rfl rfl) rfl ?_)))
   refine ops_nil (fin_inv rfl ?_)
   exact met ⟨rfl, rfl, rfl, (get_bool rfl (jot qr2)), trivial⟩
 ·
  refine ops_nil (fin_next rfl ?_)
  cases r2
  ·
   simp at hr2
   try dsimp only [Con.kind, Con.parts, Con.name, Con.lo, Con.hi, Con.cap, Con.ad] at hr2
   obtain ⟨u, hx⟩ : ∃ u, useL[k.toNat]? = some u := ⟨_, List.getElem?_eq_getElem (show k.toNat < 10 by omega)⟩
   have hus : us k = u := by simp [us, hx]
   obtain ⟨ul, ur, uo, ua, ub, um, un⟩ := u
   refine run_cond_f rfl (run_skip (fin_next rfl (run_seq (run_region (ops_val (yld_field Tryz.runUnderlying41 rfl rfl rfl Tryz.sizeOf3) rfl ?_)))))
   refine ops_val (yld_load 0 Tryz.isAgg3 rfl rfl rfl) rfl ?_
   refine ops_val (yld_indexA Tryz.runUnderlying88 Tryz.sizeOf87 rfl rfl (by show (0 : Int) ≤ k; omega) (by show k < (10 : Int); omega)) rfl ?_
   refine ops_val (yld_loadRS (ad := some ⟨0, 0, none⟩) (us := Use.cells ⟨ul, ur, uo, ua, ub, um, un⟩) Tryz.isAgg87 Tryz.sizeOf87 rfl (fun v _ h => h.1.2.1) (Use.cells_len _) (row_cells Use.cells_len hx)) rfl ?_
   refine ops_alloc Tryz.zeroValue87 rfl fun b2 => ?_
   refine ops_store 0 Tryz.sizeOf87 rfl rfl rfl rfl rfl rfl ?_
   refine ops_nil (fin_next rfl (run_seq (run_region (ops_val (yld_field Tryz.runUnderlying87 rfl rfl rfl Tryz.sizeOf4) rfl ?_))))
   refine ops_val (yld_load 0 Tryz.isAgg4 rfl rfl rfl) rfl ?_
   refine ops_val (yld_move rfl) rfl ?_
   refine ops_cut 4 ((ul) || (Con.empty (.mk kl nl ll hl al cl pl))) (fun r => [(0, .agg #[.int .i64 k, .bool op, .int .i64 kl, str nl, .int .i64 ll, .int .i64 hl, .slice al pl.length cl, .int .i64 kr, str nr, .int .i64 lr, .int .i64 hr, .slice ar pr.length cr, .slice ad rs.length cap, str ro, str a, str b]), (1, .pointer (some ⟨b1, 0, none⟩)), (2, .bool false), (11, .bool false), (12, .pointer (some ⟨b1, 0, none⟩)), (13, .int .i64 k), (14, .pointer (some (rad (some ⟨0, 0, none⟩) (k.toNat * 7)))), (15, .agg #[.bool ul, .bool ur, .bool uo, .bool ua, .bool ub, .int .i64 um, .int .i64 un]), (3, .pointer (some ⟨b2, 0, none⟩)), (22, .bool r)]) ?_ fun r4 hr4 => ?_
   ·
    cases ul
    ·
     try dsimp only [Con.kind, Con.parts, Con.name, Con.lo, Con.hi, Con.cap, Con.ad] at hul
     refine ops_yes rfl rfl (ops_val (yld_field Tryz.runUnderlying41 rfl rfl rfl Tryz.sizeOf38) rfl ?_)
     refine ops_yes rfl rfl (ops_val (yld_loadS 1 Tryz.isAgg38 Tryz.sizeOf38 rfl rfl rfl) rfl ?_)
     refine ops_yes rfl rfl (ops_callB (isEmpty_c (.mk kl nl ll hl al cl pl)) rfl (.refl _) (fun _ _ _ => trivial) rfl fun r5 hr5 => ?_)
     refine ops_val (yld_pick_f rfl rfl) rfl ?_
     refine ops_nil (fin_inv rfl ?_)
     exact met ⟨rfl, rfl, rfl, rfl, rfl, rfl, rfl, rfl, rfl, (get_bool rfl (jof rfl hr5)), trivial⟩
    ·
     try dsimp only [Con.kind, Con.parts, Con.name, Con.lo, Con.hi, Con.cap, Con.ad] at hul
     refine ops_no rfl rfl rfl rfl (ops_no rfl rfl rfl rfl (ops_no rfl rfl rfl rfl (ops_val (yld_pick_t rfl rfl) rfl ?_)))
     refine ops_nil (fin_inv rfl ?_)
     exact met ⟨rfl, rfl, rfl, rfl, rfl, rfl, rfl, rfl, rfl, (get_bool rfl (jot rfl)), trivial⟩
   ·
    refine ops_val (yld_move rfl) rfl ?_
    refine ops_cut 8 ((((ul) || (Con.empty (.mk kl nl ll hl al cl pl)))) && (((ur) || (Con.empty (.mk kr nr lr hr ar cr pr))))) (fun r => [(0, .agg #[.int .i64 k, .bool op, .int .i64 kl, str nl, .int .i64 ll, .int .i64 hl, .slice al pl.length cl, .int .i64 kr, str nr, .int .i64 lr, .int .i64 hr, .slice ar pr.length cr, .slice ad rs.length cap, str ro, str a, str b]), (1, .pointer (some ⟨b1, 0, none⟩)), (2, .bool false), (11, .bool false), (12, .pointer (some ⟨b1, 0, none⟩)), (13, .int .i64 k), (14, .pointer (some (rad (some ⟨0, 0, none⟩) (k.toNat * 7)))), (15, .agg #[.bool ul, .bool ur, .bool uo, .bool ua, .bool ub, .int .i64 um, .int .i64 un]), (3, .pointer (some ⟨b2, 0, none⟩)), (31, .bool r)]) ?_ fun r6 hr6 => ?_
    ·
     cases r4
     ·
      have qr6 := hr4
      simp at hr4
      try dsimp only [Con.kind, Con.parts, Con.name, Con.lo, Con.hi, Con.cap, Con.ad] at hr4
      refine ops_no rfl rfl rfl rfl (ops_no rfl rfl rfl rfl (ops_no rfl rfl rfl rfl (ops_no rfl rfl rfl rfl (ops_no rfl rfl rfl rfl (ops_no rfl rfl rfl rfl (ops_no rfl rfl rfl rfl (ops_val (yld_pick_f rfl rfl) rfl ?_)))))))
      refine ops_nil (fin_inv rfl ?_)
      exact met ⟨rfl, rfl, rfl, rfl, rfl, rfl, rfl, rfl, rfl, (get_bool rfl (jaf qr6)), trivial⟩
     ·
      have qr6 := hr4
      simp at hr4
      try dsimp only [Con.kind, Con.parts, Con.name, Con.lo, Con.hi, Con.cap, Con.ad] at hr4
      refine ops_yes rfl rfl (ops_val (yld_field Tryz.runUnderlying87 rfl rfl rfl Tryz.sizeOf4) rfl ?_)
      refine ops_yes rfl rfl (ops_val (yld_load 0 Tryz.isAgg4 rfl rfl rfl) rfl ?_)
      refine ops_yes rfl rfl (ops_val (yld_move rfl) rfl ?_)
      refine ops_cut 4 ((ur) || (Con.empty (.mk kr nr lr hr ar cr pr))) (fun r => [(0, .agg #[.int .i64 k, .bool op, .int .i64 kl, str nl, .int .i64 ll, .int .i64 hl, .slice al pl.length cl, .int .i64 kr, str nr, .int .i64 lr, .int .i64 hr, .slice ar pr.length cr, .slice ad rs.length cap, str ro, str a, str b]), (1, .pointer (some ⟨b1, 0, none⟩)), (2, .bool false), (11, .bool false), (12, .pointer (some ⟨b1, 0, none⟩)), (13, .int .i64 k), (14, .pointer (some (rad (some ⟨0, 0, none⟩) (k.toNat * 7)))), (15, .agg #[.bool ul, .bool ur, .bool uo, .bool ua, .bool ub, .int .i64 um, .int .i64 un]), (3, .pointer (some ⟨b2, 0, none⟩)), (23, .bool true), (30, .bool r)]) ?_ fun r7 hr7 => ?_
      ·
       cases ur
       ·
        try dsimp only [Con.kind, Con.parts, Con.name, Con.lo, Con.hi, Con.cap, Con.ad] at hur
        refine ops_yes rfl rfl (ops_val (yld_field Tryz.runUnderlying41 rfl rfl rfl Tryz.sizeOf38) rfl ?_)
        refine ops_yes rfl rfl (ops_val (yld_loadS 1 Tryz.isAgg38 Tryz.sizeOf38 rfl rfl rfl) rfl ?_)
        refine ops_yes rfl rfl (ops_callB (isEmpty_c (.mk kr nr lr hr ar cr pr)) rfl (.refl _) (fun _ _ _ => trivial) rfl fun r8 hr8 => ?_)
        refine ops_yes rfl rfl (ops_val (yld_pick_f rfl rfl) rfl ?_)
        refine ops_nil (fin_inv rfl ?_)
        exact met ⟨rfl, rfl, rfl, rfl, rfl, rfl, rfl, rfl, rfl, rfl, (get_bool rfl (jof rfl hr8)), trivial⟩
       ·
        try dsimp only [Con.kind, Con.parts, Con.name, Con.lo, Con.hi, Con.cap, Con.ad] at hur
        refine ops_no rfl rfl rfl rfl (ops_no rfl rfl rfl rfl (ops_no rfl rfl rfl rfl (ops_yes rfl rfl (ops_val (yld_pick_t rfl rfl) rfl ?_))))
        refine ops_nil (fin_inv rfl ?_)
        exact met ⟨rfl, rfl, rfl, rfl, rfl, rfl, rfl, rfl, rfl, rfl, (get_bool rfl (jot rfl)), trivial⟩
      ·
       refine ops_val (yld_pick_t rfl rfl) rfl ?_
       refine ops_nil (fin_inv rfl ?_)
       exact met ⟨rfl, rfl, rfl, rfl, rfl, rfl, rfl, rfl, rfl, (get_bool rfl (jat qr6 hr7)), trivial⟩
    ·
     refine ops_val (yld_move rfl) rfl ?_
     refine ops_cut 8 ((((((ul) || (Con.empty (.mk kl nl ll hl al cl pl)))) && (((ur) || (Con.empty (.mk kr nr lr hr ar cr pr)))))) && (((uo) || (ro == [])))) (fun r => [(0, .agg #[.int .i64 k, .bool op, .int .i64 kl, str nl, .int .i64 ll, .int .i64 hl, .slice al pl.length cl, .int .i64 kr, str nr, .int .i64 lr, .int .i64 hr, .slice ar pr.length cr, .slice ad rs.length cap, str ro, str a, str b]), (1, .pointer (some ⟨b1, 0, none⟩)), (2, .bool false), (11, .bool false), (12, .pointer (some ⟨b1, 0, none⟩)), (13, .int .i64 k), (14, .pointer (some (rad (some ⟨0, 0, none⟩) (k.toNat * 7)))), (15, .agg #[.bool ul, .bool ur, .bool uo, .bool ua, .bool ub, .int .i64 um, .int .i64 un]), (3, .pointer (some ⟨b2, 0, none⟩)), (40, .bool r)]) ?_ fun r9 hr9 => ?_
     ·
      cases r6
      ·
       have qr9 := hr6
       simp at hr6
       try dsimp only [Con.kind, Con.parts, Con.name, Con.lo, Con.hi, Con.cap, Con.ad] at hr6
       refine ops_no rfl rfl rfl rfl (ops_no rfl rfl rfl rfl (ops_no rfl rfl rfl rfl (ops_no rfl rfl rfl rfl (ops_no rfl rfl rfl rfl (ops_no rfl rfl rfl rfl (ops_no rfl rfl rfl rfl (ops_val (yld_pick_f rfl rfl) rfl ?_)))))))
       refine ops_nil (fin_inv rfl ?_)
       exact met ⟨rfl, rfl, rfl, rfl, rfl, rfl, rfl, rfl, rfl, (get_bool rfl (jaf qr9)), trivial⟩
      ·
       have qr9 := hr6
       simp at hr6
       try dsimp only [Con.kind, Con.parts, Con.name, Con.lo, Con.hi, Con.cap, Con.ad] at hr6
       refine ops_yes rfl rfl (ops_val (yld_field Tryz.runUnderlying87 rfl rfl rfl Tryz.sizeOf4) rfl ?_)
       refine ops_yes rfl rfl (ops_val (yld_load 0 Tryz.isAgg4 rfl rfl rfl) rfl ?_)
       refine ops_yes rfl rfl (ops_val (yld_move rfl) rfl ?_)
       refine ops_cut 4 ((uo) || (ro == [])) (fun r => [(0, .agg #[.int .i64 k, .bool op, .int .i64 kl, str nl, .int .i64 ll, .int .i64 hl, .slice al pl.length cl, .int .i64 kr, str nr, .int .i64 lr, .int .i64 hr, .slice ar pr.length cr, .slice ad rs.length cap, str ro, str a, str b]), (1, .pointer (some ⟨b1, 0, none⟩)), (2, .bool false), (11, .bool false), (12, .pointer (some ⟨b1, 0, none⟩)), (13, .int .i64 k), (14, .pointer (some (rad (some ⟨0, 0, none⟩) (k.toNat * 7)))), (15, .agg #[.bool ul, .bool ur, .bool uo, .bool ua, .bool ub, .int .i64 um, .int .i64 un]), (3, .pointer (some ⟨b2, 0, none⟩)), (32, .bool true), (39, .bool r)]) ?_ fun r10 hr10 => ?_
       ·
        cases uo
        ·
         try dsimp only [Con.kind, Con.parts, Con.name, Con.lo, Con.hi, Con.cap, Con.ad] at huo
         refine ops_yes rfl rfl (ops_val (yld_field Tryz.runUnderlying41 rfl rfl rfl Tryz.sizeOf9) rfl ?_)
         refine ops_yes rfl rfl (ops_val (yld_load 1 Tryz.isAgg9 rfl rfl rfl) rfl ?_)
         refine ops_yes rfl rfl (ops_valB (yld_seql rfl rfl) rfl fun r11 hr11 => ?_)
         refine ops_yes rfl rfl (ops_val (yld_pick_f rfl rfl) rfl ?_)
         refine ops_nil (fin_inv rfl ?_)
         exact met ⟨rfl, rfl, rfl, rfl, rfl, rfl, rfl, rfl, rfl, rfl, (get_bool rfl (jof rfl hr11)), trivial⟩
        ·
         try dsimp only [Con.kind, Con.parts, Con.name, Con.lo, Con.hi, Con.cap, Con.ad] at huo
         refine ops_no rfl rfl rfl rfl (ops_no rfl rfl rfl rfl (ops_no rfl rfl rfl rfl (ops_yes rfl rfl (ops_val (yld_pick_t rfl rfl) rfl ?_))))
         refine ops_nil (fin_inv rfl ?_)
         exact met ⟨rfl, rfl, rfl, rfl, rfl, rfl, rfl, rfl, rfl, rfl, (get_bool rfl (jot rfl)), trivial⟩
       ·
        refine ops_val (yld_pick_t rfl rfl) rfl ?_
        refine ops_nil (fin_inv rfl ?_)
        exact met ⟨rfl, rfl, rfl, rfl, rfl, rfl, rfl, rfl, rfl, (get_bool rfl (jat qr9 hr10)), trivial⟩
     ·
      refine ops_val (yld_move rfl) rfl ?_
      refine ops_cut 8 ((((((((ul) || (Con.empty (.mk kl nl ll hl al cl pl)))) && (((ur) || (Con.empty (.mk kr nr lr hr ar cr pr)))))) && (((uo) || (ro == []))))) && (((ua) || (a == [])))) (fun r => [(0, .agg #[.int .i64 k, .bool op, .int .i64 kl, str nl, .int .i64 ll, .int .i64 hl, .slice al pl.length cl, .int .i64 kr, str nr, .int .i64 lr, .int .i64 hr, .slice ar pr.length cr, .slice ad rs.length cap, str ro, str a, str b]), (1, .pointer (some ⟨b1, 0, none⟩)), (2, .bool false), (11, .bool false), (12, .pointer (some ⟨b1, 0, none⟩)), (13, .int .i64 k), (14, .pointer (some (rad (some ⟨0, 0, none⟩) (k.toNat * 7)))), (15, .agg #[.bool ul, .bool ur, .bool uo, .bool ua, .bool ub, .int .i64 um, .int .i64 un]), (3, .pointer (some ⟨b2, 0, none⟩)), (49, .bool r)]) ?_ fun r12 hr12 => ?_
      ·
       cases r9
       ·
        have qr12 := hr9
        simp at hr9
        try dsimp only [Con.kind, Con.parts, Con.name, Con.lo, Con.hi, Con.cap, Con.ad] at hr9
        refine ops_no rfl rfl rfl rfl (ops_no rfl rfl rfl rfl (ops_no rfl rfl rfl rfl (ops_no rfl rfl rfl rfl (ops_no rfl rfl rfl rfl (ops_no rfl rfl rfl rfl (ops_no rfl rfl rfl rfl (ops_val (yld_pick_f rfl rfl) rfl ?_)))))))
        refine ops_nil (fin_inv rfl ?_)
        exact met ⟨rfl, rfl, rfl, rfl, rfl, rfl, rfl, rfl, rfl, (get_bool rfl (jaf qr12)), trivial⟩
       ·
        have qr12 := hr9
        simp at hr9
        try dsimp only [Con.kind, Con.parts, Con.name, Con.lo, Con.hi, Con.cap, Con.ad] at hr9
        refine ops_yes rfl rfl (ops_val (yld_field Tryz.runUnderlying87 rfl rfl rfl Tryz.sizeOf4) rfl ?_)
        refine ops_yes rfl rfl (ops_val (yld_load 0 Tryz.isAgg4 rfl rfl rfl) rfl ?_)
        refine ops_yes rfl rfl (ops_val (yld_move rfl) rfl ?_)
        refine ops_cut 4 ((ua) || (a == [])) (fun r => [(0, .agg #[.int .i64 k, .bool op, .int .i64 kl, str nl, .int .i64 ll, .int .i64 hl, .slice al pl.length cl, .int .i64 kr, str nr, .int .i64 lr, .int .i64 hr, .slice ar pr.length cr, .slice ad rs.length cap, str ro, str a, str b]), (1, .pointer (some ⟨b1, 0, none⟩)), (2, .bool false), (11, .bool false), (12, .pointer (some ⟨b1, 0, none⟩)), (13, .int .i64 k), (14, .pointer (some (rad (some ⟨0, 0, none⟩) (k.toNat * 7)))), (15, .agg #[.bool ul, .bool ur, .bool uo, .bool ua, .bool ub, .int .i64 um, .int .i64 un]), (3, .pointer (some ⟨b2, 0, none⟩)), (41, .bool true), (48, .bool r)]) ?_ fun r13 hr13 => ?_
        ·
         cases ua
         ·
          try dsimp only [Con.kind, Con.parts, Con.name, Con.lo, Con.hi, Con.cap, Con.ad] at hua
          refine ops_yes rfl rfl (ops_val (yld_field Tryz.runUnderlying41 rfl rfl rfl Tryz.sizeOf9) rfl ?_)
          refine ops_yes rfl rfl (ops_val (yld_load 1 Tryz.isAgg9 rfl rfl rfl) rfl ?_)
          refine ops_yes rfl rfl (ops_valB (yld_seql rfl rfl) rfl fun r14 hr14 => ?_)
          refine ops_yes rfl rfl (ops_val (yld_pick_f rfl rfl) rfl ?_)
          refine ops_nil (fin_inv rfl ?_)
          exact met ⟨rfl, rfl, rfl, rfl, rfl, rfl, rfl, rfl, rfl, rfl, (get_bool rfl (jof rfl hr14)), trivial⟩
         ·
          try dsimp only [Con.kind, Con.parts, Con.name, Con.lo, Con.hi, Con.cap, Con.ad] at hua
          refine ops_no rfl rfl rfl rfl (ops_no rfl rfl rfl rfl (ops_no rfl rfl rfl rfl (ops_yes rfl rfl (ops_val (yld_pick_t rfl rfl) rfl ?_))))
          refine ops_nil (fin_inv rfl ?_)
          exact met ⟨rfl, rfl, rfl, rfl, rfl, rfl, rfl, rfl, rfl, rfl, (get_bool rfl (jot rfl)), trivial⟩
        ·
         refine ops_val (yld_pick_t rfl rfl) rfl ?_
         refine ops_nil (fin_inv rfl ?_)
         exact met ⟨rfl, rfl, rfl, rfl, rfl, rfl, rfl, rfl, rfl, (get_bool rfl (jat qr12 hr13)), trivial⟩
      ·
       refine ops_val (yld_move rfl) rfl ?_
       refine ops_cut 8 ((((((((((ul) || (Con.empty (.mk kl nl ll hl al cl pl)))) && (((ur) || (Con.empty (.mk kr nr lr hr ar cr pr)))))) && (((uo) || (ro == []))))) && (((ua) || (a == []))))) && (((ub) || (b == [])))) (fun r => [(0, .agg #[.int .i64 k, .bool op, .int .i64 kl, str nl, .int .i64 ll, .int .i64 hl, .slice al pl.length cl, .int .i64 kr, str nr, .int .i64 lr, .int .i64 hr, .slice ar pr.length cr, .slice ad rs.length cap, str ro, str a, str b]), (1, .pointer (some ⟨b1, 0, none⟩)), (2, .bool false), (11, .bool false), (12, .pointer (some ⟨b1, 0, none⟩)), (13, .int .i64 k), (14, .pointer (some (rad (some ⟨0, 0, none⟩) (k.toNat * 7)))), (15, .agg #[.bool ul, .bool ur, .bool uo, .bool ua, .bool ub, .int .i64 um, .int .i64 un]), (3, .pointer (some ⟨b2, 0, none⟩)), (58, .bool r)]) ?_ fun r15 hr15 => ?_
       ·
        cases r12
        ·
         have qr15 := hr12
         simp at hr12
         try dsimp only [Con.kind, Con.parts, Con.name, Con.lo, Con.hi, Con.cap, Con.ad] at hr12
         refine ops_no rfl rfl rfl rfl (ops_no rfl rfl rfl rfl (ops_no rfl rfl rfl rfl (ops_no rfl rfl rfl rfl (ops_no rfl rfl rfl rfl (ops_no rfl rfl rfl rfl (ops_no rfl rfl rfl rfl (ops_val (yld_pick_f rfl rfl) rfl ?_)))))))
         refine ops_nil (fin_inv rfl ?_)
         exact met ⟨rfl, rfl, rfl, rfl, rfl, rfl, rfl, rfl, rfl, (get_bool rfl (jaf qr15)), trivial⟩
        ·
         have qr15 := hr12
         simp at hr12
         try dsimp only [Con.kind, Con.parts, Con.name, Con.lo, Con.hi, Con.cap, Con.ad] at hr12
         refine ops_yes rfl rfl (ops_val (yld_field Tryz.runUnderlying87 rfl rfl rfl Tryz.sizeOf4) rfl ?_)
         refine ops_yes rfl rfl (ops_val (yld_load 0 Tryz.isAgg4 rfl rfl rfl) rfl ?_)
         refine ops_yes rfl rfl (ops_val (yld_move rfl) rfl ?_)
         refine ops_cut 4 ((ub) || (b == [])) (fun r => [(0, .agg #[.int .i64 k, .bool op, .int .i64 kl, str nl, .int .i64 ll, .int .i64 hl, .slice al pl.length cl, .int .i64 kr, str nr, .int .i64 lr, .int .i64 hr, .slice ar pr.length cr, .slice ad rs.length cap, str ro, str a, str b]), (1, .pointer (some ⟨b1, 0, none⟩)), (2, .bool false), (11, .bool false), (12, .pointer (some ⟨b1, 0, none⟩)), (13, .int .i64 k), (14, .pointer (some (rad (some ⟨0, 0, none⟩) (k.toNat * 7)))), (15, .agg #[.bool ul, .bool ur, .bool uo, .bool ua, .bool ub, .int .i64 um, .int .i64 un]), (3, .pointer (some ⟨b2, 0, none⟩)), (50, .bool true), (57, .bool r)]) ?_ fun r16 hr16 => ?_
         ·
          cases ub
          ·
           try dsimp only [Con.kind, Con.parts, Con.name, Con.lo, Con.hi, Con.cap, Con.ad] at hub
           refine ops_yes rfl rfl (ops_val (yld_field Tryz.runUnderlying41 rfl rfl rfl Tryz.sizeOf9) rfl ?_)
           refine ops_yes rfl rfl (ops_val (yld_load 1 Tryz.isAgg9 rfl rfl rfl) rfl ?_)
           refine ops_yes rfl rfl (ops_valB (yld_seql rfl rfl) rfl fun r17 hr17 => ?_)
           refine ops_yes rfl rfl (ops_val (yld_pick_f rfl rfl) rfl ?_)
           refine ops_nil (fin_inv rfl ?_)
           exact met ⟨rfl, rfl, rfl, rfl, rfl, rfl, rfl, rfl, rfl, rfl, (get_bool rfl (jof rfl hr17)), trivial⟩
          ·
           try dsimp only [Con.kind, Con.parts, Con.name, Con.lo, Con.hi, Con.cap, Con.ad] at hub
           refine ops_no rfl rfl rfl rfl (ops_no rfl rfl rfl rfl (ops_no rfl rfl rfl rfl (ops_yes rfl rfl (ops_val (yld_pick_t rfl rfl) rfl ?_))))
           refine ops_nil (fin_inv rfl ?_)
           exact met ⟨rfl, rfl, rfl, rfl, rfl, rfl, rfl, rfl, rfl, rfl, (get_bool rfl (jot rfl)), trivial⟩
         ·
          refine ops_val (yld_pick_t rfl rfl) rfl ?_
          refine ops_nil (fin_inv rfl ?_)
          exact met ⟨rfl, rfl, rfl, rfl, rfl, rfl, rfl, rfl, rfl, (get_bool rfl (jat qr15 hr16)), trivial⟩
       ·
        refine ops_val (yld_move rfl) rfl ?_
        refine ops_cut 7 ((((((((((((ul) || (Con.empty (.mk kl nl ll hl al cl pl)))) && (((ur) || (Con.empty (.mk kr nr lr hr ar cr pr)))))) && (((uo) || (ro == []))))) && (((ua) || (a == []))))) && (((ub) || (b == []))))) && (decide (um ≤ (rs.length : Int)))) (fun r => [(0, .agg #[.int .i64 k, .bool op, .int .i64 kl, str nl, .int .i64 ll, .int .i64 hl, .slice al pl.length cl, .int .i64 kr, str nr, .int .i64 lr, .int .i64 hr, .slice ar pr.length cr, .slice ad rs.length cap, str ro, str a, str b]), (1, .pointer (some ⟨b1, 0, none⟩)), (2, .bool false), (11, .bool false), (12, .pointer (some ⟨b1, 0, none⟩)), (13, .int .i64 k), (14, .pointer (some (rad (some ⟨0, 0, none⟩) (k.toNat * 7)))), (15, .agg #[.bool ul, .bool ur, .bool uo, .bool ua, .bool ub, .int .i64 um, .int .i64 un]), (3, .pointer (some ⟨b2, 0, none⟩)), (66, .bool r)]) ?_ fun r18 hr18 => ?_
        ·
         cases r15
         ·
          have qr18 := hr15
          simp at hr15
          try dsimp only [Con.kind, Con.parts, Con.name, Con.lo, Con.hi, Con.cap, Con.ad] at hr15
          refine ops_no rfl rfl rfl rfl (ops_no rfl rfl rfl rfl (ops_no rfl rfl rfl rfl (ops_no rfl rfl rfl rfl (ops_no rfl rfl rfl rfl (ops_no rfl rfl rfl rfl (ops_val (yld_pick_f rfl rfl) rfl ?_))))))
          refine ops_nil (fin_inv rfl ?_)
          exact met ⟨rfl, rfl, rfl, rfl, rfl, rfl, rfl, rfl, rfl, (get_bool rfl (jaf qr18)), trivial⟩
         ·
          have qr18 := hr15
          simp at hr15
          try dsimp only [Con.kind, Con.parts, Con.name, Con.lo, Con.hi, Con.cap, Con.ad] at hr15
          refine ops_yes rfl rfl (ops_val (yld_field Tryz.runUnderlying41 rfl rfl rfl Tryz.sizeOf39) rfl ?_)
          refine ops_yes rfl rfl (ops_val (yld_load 1 Tryz.isAgg39 rfl rfl rfl) rfl ?_)
          refine ops_yes rfl rfl (ops_val (yld_lenS Tryz.runUnderlying39 rfl) rfl ?_)
          refine ops_yes rfl rfl (ops_val (yld_field Tryz.runUnderlying87 rfl rfl rfl Tryz.sizeOf3) rfl ?_)
          refine ops_yes rfl rfl (ops_val (yld_load 0 Tryz.isAgg3 rfl rfl rfl) rfl ?_)
          refine ops_yes rfl rfl (ops_valB (yld_geq rfl rfl) rfl fun r19 hr19 => ?_)
          refine ops_val (yld_pick_t rfl rfl) rfl ?_
          refine ops_nil (fin_inv rfl ?_)
          exact met ⟨rfl, rfl, rfl, rfl, rfl, rfl, rfl, rfl, rfl, (get_bool rfl (jat qr18 hr19)), trivial⟩
        ·
         refine ops_val (yld_move rfl) rfl ?_
         refine ops_cut 7 ((((((((((((((ul) || (Con.empty (.mk kl nl ll hl al cl pl)))) && (((ur) || (Con.empty (.mk kr nr lr hr ar cr pr)))))) && (((uo) || (ro == []))))) && (((ua) || (a == []))))) && (((ub) || (b == []))))) && (decide (um ≤ (rs.length : Int))))) && (decide ((rs.length : Int) ≤ un))) (fun r => [(0, .agg #[.int .i64 k, .bool op, .int .i64 kl, str nl, .int .i64 ll, .int .i64 hl, .slice al pl.length cl, .int .i64 kr, str nr, .int .i64 lr, .int .i64 hr, .slice ar pr.length cr, .slice ad rs.length cap, str ro, str a, str b]), (1, .pointer (some ⟨b1, 0, none⟩)), (2, .bool false), (11, .bool false), (12, .pointer (some ⟨b1, 0, none⟩)), (13, .int .i64 k), (14, .pointer (some (rad (some ⟨0, 0, none⟩) (k.toNat * 7)))), (15, .agg #[.bool ul, .bool ur, .bool uo, .bool ua, .bool ub, .int .i64 um, .int .i64 un]), (3, .pointer (some ⟨b2, 0, none⟩)), (74, .bool r)]) ?_ fun r20 hr20 => ?_
         ·
          cases r18
          ·
           have qr20 := hr18
           simp at hr18
           try dsimp only [Con.kind, Con.parts, Con.name, Con.lo, Con.hi, Con.cap, Con.ad] at hr18
           refine ops_no rfl rfl rfl rfl (ops_no rfl rfl rfl rfl (ops_no rfl rfl rfl rfl (ops_no rfl rfl rfl rfl (ops_no rfl rfl rfl rfl (ops_no rfl rfl rfl rfl (ops_val (yld_pick_f rfl rfl) rfl ?_))))))
           refine ops_nil (fin_inv rfl ?_)
           exact met ⟨rfl, rfl, rfl, rfl, rfl, rfl, rfl, rfl, rfl, (get_bool rfl (jaf qr20)), trivial⟩
          ·
           have qr20 := hr18
           simp at hr18
           try dsimp only [Con.kind, Con.parts, Con.name, Con.lo, Con.hi, Con.cap, Con.ad] at hr18
           refine ops_yes rfl rfl (ops_val (yld_field Tryz.runUnderlying41 rfl rfl rfl Tryz.sizeOf39) rfl ?_)
           refine ops_yes rfl rfl (ops_val (yld_load 1 Tryz.isAgg39 rfl rfl rfl) rfl ?_)
           refine ops_yes rfl rfl (ops_val (yld_lenS Tryz.runUnderlying39 rfl) rfl ?_)
           refine ops_yes rfl rfl (ops_val (yld_field Tryz.runUnderlying87 rfl rfl rfl Tryz.sizeOf3) rfl ?_)
           refine ops_yes rfl rfl (ops_val (yld_load 0 Tryz.isAgg3 rfl rfl rfl) rfl ?_)
           refine ops_yes rfl rfl (ops_valB (yld_leq rfl rfl) rfl fun r21 hr21 => ?_)
           refine ops_val (yld_pick_t rfl rfl) rfl ?_
           refine ops_nil (fin_inv rfl ?_)
           exact met ⟨rfl, rfl, rfl, rfl, rfl, rfl, rfl, rfl, rfl, (get_bool rfl (jat qr20 hr21)), trivial⟩
         ·
          refine ops_val (yld_assign rfl) rfl (ops_nil (fin_next rfl (run_ret ?_)))
          exact ret1 Tryz.results54 () (get_bool rfl (by unfold Ax.shaped; rw [if_neg (by simp only [not_or]; omega)]; simp only [hus]; exact hr20.symm)) (.refl _) (fun _ _ _ => trivial)
  ·
   simp at hr2
   try dsimp only [Con.kind, Con.parts, Con.name, Con.lo, Con.hi, Con.cap, Con.ad] at hr2
   refine run_cond_t rfl (run_seq (run_region (ops_val (yld_assign rfl) rfl (ops_nil (fin_next rfl (run_ret ?_))))))
   exact ret1 Tryz.results54 () (get_bool rfl (by unfold Ax.shaped; rw [if_pos (by simpa using hr2)])) (.refl _) (fun _ _ _ => trivial)

theorem pn (s : Str) : (((if personS s then 0 else 20) : Int) != 0) = !personS s := by cases personS s <;> rfl

theorem isNamed_c (x : Ax) (hok : x.ok) (u : Use) : Tri Tryz.prog 55 #[x.val, .agg u.cells.toArray] [] [x.memF] (fun _ : Unit => .bool (x.namedU u)) (fun _ => []) (fun _ => []) := by
 obtain ⟨k, op, ⟨kl, nl, ll, hl, al, cl, pl⟩, ⟨kr, nr, lr, hr, ar, cr, pr⟩, ad, cap, rs, ro, a, b⟩ := x
 obtain ⟨ul, ur, uo, ua, ub, um, un⟩ := u
 have hlen := hok.len
 have hcap := hok.cap
 dsimp only at hlen hcap
 refine tri_of_body Tryz.func55 rfl rfl Tryz.ntmps55 rfl fun v0 => ?_
 refine run_seq (run_region (ops_box rfl rfl fun b1 => ?_))
 refine ops_box rfl rfl fun b2 => ?_
 refine ops_val (yld_assign rfl) rfl (ops_nil (fin_next rfl (run_seq (run_seq (run_region (ops_val (yld_field Tryz.runUnderlying87 rfl rfl rfl Tryz.sizeOf4) rfl ?_))))))
 refine ops_val (yld_load 0 Tryz.isAgg4 rfl rfl rfl) rfl ?_
 refine ops_val (yld_move rfl) rfl ?_
 refine ops_cut 5 ((uo) && (!(plainS ro))) (fun r => [(0, .agg #[.int .i64 k, .bool op, .int .i64 kl, str nl, .int .i64 ll, .int .i64 hl, .slice al pl.length cl, .int .i64 kr, str nr, .int .i64 lr, .int .i64 hr, .slice ar pr.length cr, .slice ad rs.length cap, str ro, str a, str b]), (1, .agg #[.bool ul, .bool ur, .bool uo, .bool ua, .bool ub, .int .i64 um, .int .i64 un]), (2, .pointer (some ⟨b1, 0, none⟩)), (3, .pointer (some ⟨b2, 0, none⟩)), (4, .bool false), (14, .bool r)]) ?_ fun r1 hr1 => ?_
 ·
  cases uo
  ·
   try dsimp only [Con.kind, Con.parts, Con.name, Con.lo, Con.hi, Con.cap, Con.ad] at huo
   refine ops_no rfl rfl rfl rfl (ops_no rfl rfl rfl rfl (ops_no rfl rfl rfl rfl (ops_no rfl rfl rfl rfl (ops_val (yld_pick_f rfl rfl) rfl ?_))))
   refine ops_nil (fin_inv rfl ?_)
   exact met ⟨rfl, rfl, rfl, rfl, rfl, (get_bool rfl (jaf rfl)), trivial⟩
  ·
   try dsimp only [Con.kind, Con.parts, Con.name, Con.lo, Con.hi, Con.cap, Con.ad] at huo
   refine ops_yes rfl rfl (ops_val (yld_field Tryz.runUnderlying41 rfl rfl rfl Tryz.sizeOf9) rfl ?_)
   refine ops_yes rfl rfl (ops_val (yld_load 1 Tryz.isAgg9 rfl rfl rfl) rfl ?_)
   refine ops_yes rfl rfl (ops_callB (isPlain_c _) rfl (.refl _) (fun _ _ _ => trivial) rfl fun r2 hr2 => ?_)
   refine ops_yes rfl rfl (ops_val (yld_not rfl) rfl ?_)
   refine ops_val (yld_pick_t rfl rfl) rfl ?_
   refine ops_nil (fin_inv rfl ?_)
   exact met ⟨rfl, rfl, rfl, rfl, rfl, (get_bool rfl (jat rfl (jn hr2))), trivial⟩
 ·
  refine ops_val (yld_move rfl) rfl ?_
  refine ops_cut 9 ((((uo) && (!(plainS ro)))) || (((ua) && (((if personS a then 0 else 20) : Int) != 0)))) (fun r => [(0, .agg #[.int .i64 k, .bool op, .int .i64 kl, str nl, .int .i64 ll, .int .i64 hl, .slice al pl.length cl, .int .i64 kr, str nr, .int .i64 lr, .int .i64 hr, .slice ar pr.length cr, .slice ad rs.length cap, str ro, str a, str b]), (1, .agg #[.bool ul, .bool ur, .bool uo, .bool ua, .bool ub, .int .i64 um, .int .i64 un]), (2, .pointer (some ⟨b1, 0, none⟩)), (3, .pointer (some ⟨b2, 0, none⟩)), (4, .bool false), (24, .bool r)]) ?_ fun r3 hr3 => ?_
  ·
   cases r1
   ·
    have qr3 := hr1
    try dsimp only [Con.kind, Con.parts, Con.name, Con.lo, Con.hi, Con.cap, Con.ad] at hr1
    refine ops_yes rfl rfl (ops_val (yld_field Tryz.runUnderlying87 rfl rfl rfl Tryz.sizeOf4) rfl ?_)
    refine ops_yes rfl rfl (ops_val (yld_load 0 Tryz.isAgg4 rfl rfl rfl) rfl ?_)
    refine ops_yes rfl rfl (ops_val (yld_move rfl) rfl ?_)
    refine ops_cut 5 ((ua) && (((if personS a then 0 else 20) : Int) != 0)) (fun r => [(0, .agg #[.int .i64 k, .bool op, .int .i64 kl, str nl, .int .i64 ll, .int .i64 hl, .slice al pl.length cl, .int .i64 kr, str nr, .int .i64 lr, .int .i64 hr, .slice ar pr.length cr, .slice ad rs.length cap, str ro, str a, str b]), (1, .agg #[.bool ul, .bool ur, .bool uo, .bool ua, .bool ub, .int .i64 um, .int .i64 un]), (2, .pointer (some ⟨b1, 0, none⟩)), (3, .pointer (some ⟨b2, 0, none⟩)), (4, .bool false), (15, .bool false), (23, .bool r)]) ?_ fun r4 hr4 => ?_
    ·
     cases ua
     ·
      try dsimp only [Con.kind, Con.parts, Con.name, Con.lo, Con.hi, Con.cap, Con.ad] at hua
      refine ops_no rfl rfl rfl rfl (ops_no rfl rfl rfl rfl (ops_no rfl rfl rfl rfl (ops_no rfl rfl rfl rfl (ops_yes rfl rfl (ops_val (yld_pick_f rfl rfl) rfl ?_)))))
      refine ops_nil (fin_inv rfl ?_)
      exact met ⟨rfl, rfl, rfl, rfl, rfl, rfl, (get_bool rfl (jaf rfl)), trivial⟩
     ·
      try dsimp only [Con.kind, Con.parts, Con.name, Con.lo, Con.hi, Con.cap, Con.ad] at hua
      refine ops_yes rfl rfl (ops_val (yld_field Tryz.runUnderlying41 rfl rfl rfl Tryz.sizeOf9) rfl ?_)
      refine ops_yes rfl rfl (ops_val (yld_load 1 Tryz.isAgg9 rfl rfl rfl) rfl ?_)
      refine ops_yes rfl rfl (ops_call (checkName_c _ hok.a) rfl (.refl _) (fun _ _ _ => trivial) rfl fun _ => ?_)
      refine ops_yes rfl rfl (ops_valB (yld_neq rfl rfl) rfl fun r5 hr5 => ?_)
      refine ops_yes rfl rfl (ops_val (yld_pick_t rfl rfl) rfl ?_)
      refine ops_nil (fin_inv rfl ?_)
      exact met ⟨rfl, rfl, rfl, rfl, rfl, rfl, (get_bool rfl (jat rfl hr5)), trivial⟩
    ·
     refine ops_val (yld_pick_f rfl rfl) rfl ?_
     refine ops_nil (fin_inv rfl ?_)
     exact met ⟨rfl, rfl, rfl, rfl, rfl, (get_bool rfl (jof qr3 hr4)), trivial⟩
   ·
    have qr3 := hr1
    try dsimp only [Con.kind, Con.parts, Con.name, Con.lo, Con.hi, Con.cap, Con.ad] at hr1
    refine ops_no rfl rfl rfl rfl (ops_no rfl rfl rfl rfl (ops_no rfl rfl rfl rfl (ops_no rfl rfl rfl rfl (ops_no rfl rfl rfl rfl (ops_no rfl rfl rfl rfl (ops_no rfl rfl rfl rfl (ops_no rfl rfl rfl rfl ?_)))))))
    refine ops_val (yld_pick_t rfl rfl) rfl ?_
    refine ops_nil (fin_inv rfl ?_)
    exact met ⟨rfl, rfl, rfl, rfl, rfl, (get_bool rfl (jot qr3)), trivial⟩
  ·
   refine ops_val (yld_move rfl) rfl ?_
   refine ops_cut 9 ((((((uo) && (!(plainS ro)))) || (((ua) && (((if personS a then 0 else 20) : Int) != 0))))) || (((ub) && (((if personS b then 0 else 20) : Int) != 0)))) (fun r => [(0, .agg #[.int .i64 k, .bool op, .int .i64 kl, str nl, .int .i64 ll, .int .i64 hl, .slice al pl.length cl, .int .i64 kr, str nr, .int .i64 lr, .int .i64 hr, .slice ar pr.length cr, .slice ad rs.length cap, str ro, str a, str b]), (1, .agg #[.bool ul, .bool ur, .bool uo, .bool ua, .bool ub, .int .i64 um, .int .i64 un]), (2, .pointer (some ⟨b1, 0, none⟩)), (4, .bool false), (34, .bool r)]) ?_ fun r6 hr6 => ?_
   ·
    cases r3
    ·
     have qr6 := hr3
     try dsimp only [Con.kind, Con.parts, Con.name, Con.lo, Con.hi, Con.cap, Con.ad] at hr3
     refine ops_yes rfl rfl (ops_val (yld_field Tryz.runUnderlying87 rfl rfl rfl Tryz.sizeOf4) rfl ?_)
     refine ops_yes rfl rfl (ops_val (yld_load 0 Tryz.isAgg4 rfl rfl rfl) rfl ?_)
     refine ops_yes rfl rfl (ops_val (yld_move rfl) rfl ?_)
     refine ops_cut 5 ((ub) && (((if personS b then 0 else 20) : Int) != 0)) (fun r => [(0, .agg #[.int .i64 k, .bool op, .int .i64 kl, str nl, .int .i64 ll, .int .i64 hl, .slice al pl.length cl, .int .i64 kr, str nr, .int .i64 lr, .int .i64 hr, .slice ar pr.length cr, .slice ad rs.length cap, str ro, str a, str b]), (1, .agg #[.bool ul, .bool ur, .bool uo, .bool ua, .bool ub, .int .i64 um, .int .i64 un]), (2, .pointer (some ⟨b1, 0, none⟩)), (4, .bool false), (25, .bool false), (33, .bool r)]) ?_ fun r7 hr7 => ?_
     ·
      cases ub
      ·
       try dsimp only [Con.kind, Con.parts, Con.name, Con.lo, Con.hi, Con.cap, Con.ad] at hub
       refine ops_no rfl rfl rfl rfl (ops_no rfl rfl rfl rfl (ops_no rfl rfl rfl rfl (ops_no rfl rfl rfl rfl (ops_yes rfl rfl (ops_val (yld_pick_f rfl rfl) rfl ?_)))))
       refine ops_nil (fin_inv rfl ?_)
       exact met ⟨rfl, rfl, rfl, rfl, rfl, (get_bool rfl (jaf rfl)), trivial⟩
      ·
       try dsimp only [Con.kind, Con.parts, Con.name, Con.lo, Con.hi, Con.cap, Con.ad] at hub
       refine ops_yes rfl rfl (ops_val (yld_field Tryz.runUnderlying41 rfl rfl rfl Tryz.sizeOf9) rfl ?_)
       refine ops_yes rfl rfl (ops_val (yld_load 1 Tryz.isAgg9 rfl rfl rfl) rfl ?_)
       refine ops_yes rfl rfl (ops_call (checkName_c _ hok.b) rfl (.refl _) (fun _ _ _ => trivial) rfl fun _ => ?_)
       refine ops_yes rfl rfl (ops_valB (yld_neq rfl rfl) rfl fun r8 hr8 => ?_)
       refine ops_yes rfl rfl (ops_val (yld_pick_t rfl rfl) rfl ?_)
       refine ops_nil (fin_inv rfl ?_)
       exact met ⟨rfl, rfl, rfl, rfl, rfl, (get_bool rfl (jat rfl hr8)), trivial⟩
     ·
      refine ops_val (yld_pick_f rfl rfl) rfl ?_
      refine ops_nil (fin_inv rfl ?_)
      exact met ⟨rfl, rfl, rfl, rfl, (get_bool rfl (jof qr6 hr7)), trivial⟩
    ·
     have qr6 := hr3
     try dsimp only [Con.kind, Con.parts, Con.name, Con.lo, Con.hi, Con.cap, Con.ad] at hr3
     refine ops_no rfl rfl rfl rfl (ops_no rfl rfl rfl rfl (ops_no rfl rfl rfl rfl (ops_no rfl rfl rfl rfl (ops_no rfl rfl rfl rfl (ops_no rfl rfl rfl rfl (ops_no rfl rfl rfl rfl (ops_no rfl rfl rfl rfl ?_)))))))
     refine ops_val (yld_pick_t rfl rfl) rfl ?_
     refine ops_nil (fin_inv rfl ?_)
     exact met ⟨rfl, rfl, rfl, rfl, (get_bool rfl (jot qr6)), trivial⟩
   ·
    refine ops_nil (fin_next rfl ?_)
    cases r6
    ·
     try dsimp only [Con.kind, Con.parts, Con.name, Con.lo, Con.hi, Con.cap, Con.ad] at hr6
     refine run_cond_f rfl (run_skip (fin_next rfl (run_seq (run_seq (run_region (ops_val (yld_field Tryz.runUnderlying41 rfl rfl rfl Tryz.sizeOf39) rfl ?_))))))
     refine ops_val (yld_load 1 Tryz.isAgg39 rfl rfl rfl) rfl ?_
     refine ops_val (yld_lenS Tryz.runUnderlying39 rfl) rfl ?_
     refine ops_val (yld_move rfl) rfl (ops_nil (fin_next rfl (run_block (ok_fr [(36, .slice ad rs.length cap), (37, .int .i64 (rs.length : Int)), (38, .int .i64 ((0 : Nat) : Int))] ⟨rfl, rfl, rfl, trivial⟩ ?_))))
     refine run_loop (ι := {q : Nat // q ≤ rs.length ∧ (rs.take q).all plainS = true}) (fun i => [(36, .slice ad rs.length cap), (37, .int .i64 (rs.length : Int)), (38, .int .i64 (i.1 : Int))]) (fun _ => _) (fun _ => _) (fun i => rs.length - i.1) ⟨0, by simp⟩ ?_
     rintro ⟨i, hk⟩
     refine ok_fr [(36, .slice ad rs.length cap), (37, .int .i64 (rs.length : Int)), (38, .int .i64 (i : Int))] ⟨rfl, rfl, rfl, trivial⟩ ?_
     refine run_seq (run_region (ops_valB (yld_lss rfl rfl) rfl fun r9 hr9 => ?_))
     refine ops_nil (fin_next rfl (run_seq ?_))
     cases r9
     ·
      replace hr9 := of_decide_eq_false hr9
      try dsimp only [Con.kind, Con.parts, Con.name, Con.lo, Con.hi, Con.cap, Con.ad] at hr9
      refine run_cond_f rfl (run_exit rfl (fin_next rfl (run_seq (run_region (ops_val (yld_assign rfl) rfl (ops_nil (fin_next rfl ?_)))))))
      refine run_ret ?_
      exact ret1 Tryz.results55 () (get_bool rfl (by have hf : rs.all plainS = true := (by have := hk.2; rwa [List.take_of_length_le (by omega)] at this); unfold Ax.namedU; simp only [pn] at hr6; simp only [hf, hr6]; rfl)) (.refl _) (fun _ _ _ => trivial)
     ·
      replace hr9 := of_decide_eq_true hr9
      try dsimp only [Con.kind, Con.parts, Con.name, Con.lo, Con.hi, Con.cap, Con.ad] at hr9
      have hlt : i < rs.length := by omega
      obtain ⟨q, hp⟩ : ∃ q, rs[i]? = some q := ⟨_, List.getElem?_eq_getElem hlt⟩
      refine run_cond_t rfl (run_skip (fin_next rfl (run_seq (run_block (run_seq (run_region (ops_val (yld_indexR Tryz.runUnderlying39 Tryz.sizeOf9 rfl rfl (fun v _ h => row_adr (n := 1) strC_len (by decide) (h.1.2.2) hp) (by omega) (by first | omega | (simp only [Con.parts]; omega) | (simp [Con.parts]; done))) rfl ?_)))))))
      refine ops_val (yld_loadR (ad := ad) Tryz.isAgg9 rfl (fun v _ h => h.1.2.2) (row_cells strC_len hp 0 _ rfl)) rfl ?_
      refine ops_val (yld_assign rfl) rfl (ops_nil (fin_next rfl (run_seq (run_region (ops_val (yld_move rfl) rfl (ops_callB (isPlain_c _) rfl (.refl _) (fun _ _ _ => trivial) rfl fun r10 hr10 => ?_))))))
      refine ops_val (yld_not rfl) rfl ?_
      refine ops_nil (fin_next rfl ?_)
      cases r10
      ·
       try dsimp only [Con.kind, Con.parts, Con.name, Con.lo, Con.hi, Con.cap, Con.ad] at hr10
       refine run_cond_t rfl (run_seq (run_region (ops_val (yld_assign rfl) rfl (ops_nil (fin_next rfl (run_ret ?_))))))
       exact ret1 Tryz.results55 () (get_bool rfl (by have hf : rs.all plainS = false := List.all_eq_false.2 ⟨q, List.mem_of_getElem? hp, by simp [*]⟩; unfold Ax.namedU; simp only [hf, Bool.and_false])) (.refl _) (fun _ _ _ => trivial)
      ·
       try dsimp only [Con.kind, Con.parts, Con.name, Con.lo, Con.hi, Con.cap, Con.ad] at hr10
       refine run_cond_f rfl (run_skip (fin_next rfl (run_region (ops_val (yld_arith rfl rfl rfl (wrap64 (by omega) (by omega))) rfl ?_))))
       refine ops_val (yld_move rfl) rfl (ops_nil (fin_inv rfl ?_))
       exact ok_again ⟨i + 1, hlt, by rw [List.take_add_one, hp]; simp only [Option.toList_some, List.all_append, hk.2]; simp [*]⟩ (by simp; omega) ⟨rfl, rfl, rfl, trivial⟩ (.refl _) (fun _ _ h => h)
    ·
     try dsimp only [Con.kind, Con.parts, Con.name, Con.lo, Con.hi, Con.cap, Con.ad] at hr6
     refine run_cond_t rfl (run_seq (run_region (ops_val (yld_assign rfl) rfl (ops_nil (fin_next rfl (run_ret ?_))))))
     exact ret1 Tryz.results55 () (get_bool rfl (by unfold Ax.namedU; simp only [pn] at hr6; simp only [hr6]; rfl)) (.refl _) (fun _ _ _ => trivial)

theorem Ax.shaped_kind {x : Ax} (h : x.shaped = true) : 1 ≤ x.kind ∧ x.kind ≤ 9 := by
  unfold Ax.shaped at h
  split at h
  · cases h
  · rename_i hh; simp only [not_or] at hh; omega

theorem checkAxiom_c (x : Ax) (hok : x.ok) : Tri Tryz.prog 20 #[x.val] [] [x.memF, tabs] (fun _ : Unit => .int .i64 x.check) (fun _ => []) (fun _ => []) := by
 obtain ⟨k, op, ⟨kl, nl, ll, hl, al, cl, pl⟩, ⟨kr, nr, lr, hr, ar, cr, pr⟩, ad, cap, rs, ro, a, b⟩ := x
 refine tri_of_body Tryz.func20 rfl rfl Tryz.ntmps20 rfl fun v0 => ?_
 refine run_seq (run_region (ops_box rfl rfl fun b1 => ?_))
 refine ops_val (yld_assign rfl) rfl (ops_nil (fin_next rfl (run_seq (run_seq (run_region (ops_val (yld_loadS 0 Tryz.isAgg41 Tryz.sizeOf41 rfl rfl rfl) rfl ?_))))))
 refine ops_callB (isShaped_c ⟨k, op, (.mk kl nl ll hl al cl pl), (.mk kr nr lr hr ar cr pr), ad, cap, rs, ro, a, b⟩) rfl (.refl _) (fun v _ h => ⟨h.2.1, trivial⟩) rfl fun r1 hr1 => ?_
 refine ops_val (yld_not rfl) rfl ?_
 refine ops_nil (fin_next rfl ?_)
 cases r1
 ·
  try dsimp only [Con.kind, Con.parts, Con.name, Con.lo, Con.hi, Con.cap, Con.ad] at hr1
  refine run_cond_t rfl (run_seq (run_region (ops_val (yld_assign rfl) rfl (ops_nil (fin_next rfl (run_ret ?_))))))
  exact ret1 Tryz.results20 () (get_int rfl (by unfold Ax.check; simp_all)) (.refl _) (fun _ _ _ => trivial)
 ·
  try dsimp only [Con.kind, Con.parts, Con.name, Con.lo, Con.hi, Con.cap, Con.ad] at hr1
  have hk0 : 1 ≤ k ∧ k ≤ 9 := Ax.shaped_kind hr1
  obtain ⟨u, hx⟩ : ∃ u, useL[k.toNat]? = some u := ⟨_, List.getElem?_eq_getElem (show k.toNat < 10 by omega)⟩
  have hus : us k = u := by simp [us, hx]
  obtain ⟨ul, ur, uo, ua, ub, um, un⟩ := u
  refine run_cond_f rfl (run_skip (fin_next rfl (run_seq (run_region (ops_val (yld_field Tryz.runUnderlying41 rfl rfl rfl Tryz.sizeOf3) rfl ?_)))))
  refine ops_val (yld_load 0 Tryz.isAgg3 rfl rfl rfl) rfl ?_
  refine ops_val (yld_indexA Tryz.runUnderlying88 Tryz.sizeOf87 rfl rfl (by show (0 : Int) ≤ k; omega) (by show k < (10 : Int); omega)) rfl ?_
  refine ops_val (yld_loadRS (ad := some ⟨0, 0, none⟩) (us := Use.cells ⟨ul, ur, uo, ua, ub, um, un⟩) Tryz.isAgg87 Tryz.sizeOf87 rfl (fun v _ h => h.2.1.2.1) (Use.cells_len _) (row_cells Use.cells_len hx)) rfl ?_
  refine ops_alloc Tryz.zeroValue87 rfl fun b2 => ?_
  refine ops_store 0 Tryz.sizeOf87 rfl rfl rfl rfl rfl rfl ?_
  refine ops_nil (fin_next rfl (run_seq (run_seq (run_region (ops_val (yld_loadS 1 Tryz.isAgg41 Tryz.sizeOf41 rfl rfl rfl) rfl ?_)))))
  refine ops_val (yld_loadS 0 Tryz.isAgg87 Tryz.sizeOf87 rfl rfl rfl) rfl ?_
  refine ops_callB (isNamed_c ⟨k, op, (.mk kl nl ll hl al cl pl), (.mk kr nr lr hr ar cr pr), ad, cap, rs, ro, a, b⟩ hok ⟨ul, ur, uo, ua, ub, um, un⟩) rfl (.refl _) (fun v _ h => ⟨h.1, trivial⟩) rfl fun r2 hr2 => ?_
  refine ops_val (yld_not rfl) rfl ?_
  refine ops_nil (fin_next rfl ?_)
  cases r2
  ·
   try dsimp only [Con.kind, Con.parts, Con.name, Con.lo, Con.hi, Con.cap, Con.ad] at hr2
   refine run_cond_t rfl (run_seq (run_region (ops_val (yld_assign rfl) rfl (ops_nil (fin_next rfl (run_ret ?_))))))
   exact ret1 Tryz.results20 () (get_int rfl (by unfold Ax.check; simp only [hus]; simp_all)) (.refl _) (fun _ _ _ => trivial)
  ·
   try dsimp only [Con.kind, Con.parts, Con.name, Con.lo, Con.hi, Con.cap, Con.ad] at hr2
   refine run_cond_f rfl (run_skip (fin_next rfl (run_seq (run_seq (run_region (ops_val (yld_field Tryz.runUnderlying87 rfl rfl rfl Tryz.sizeOf4) rfl ?_))))))
   refine ops_val (yld_load 0 Tryz.isAgg4 rfl rfl rfl) rfl ?_
   refine ops_nil (fin_next rfl ?_)
   cases ul
   ·
    try dsimp only [Con.kind, Con.parts, Con.name, Con.lo, Con.hi, Con.cap, Con.ad] at hul
    refine run_cond_f rfl (run_skip (fin_next rfl (run_seq (run_seq (run_region (ops_val (yld_field Tryz.runUnderlying87 rfl rfl rfl Tryz.sizeOf4) rfl ?_))))))
    refine ops_val (yld_load 0 Tryz.isAgg4 rfl rfl rfl) rfl ?_
    refine ops_nil (fin_next rfl ?_)
    cases ur
    ·
     try dsimp only [Con.kind, Con.parts, Con.name, Con.lo, Con.hi, Con.cap, Con.ad] at hur
     refine run_cond_f rfl (run_skip (fin_next rfl (run_seq (run_seq (run_region (ops_val (yld_field Tryz.runUnderlying41 rfl rfl rfl Tryz.sizeOf3) rfl ?_))))))
     refine ops_val (yld_load 1 Tryz.isAgg3 rfl rfl rfl) rfl ?_
     refine ops_nil (fin_next rfl (run_block (run_seq (run_region (ops_valB (yld_eql rfl rfl) rfl fun r3 hr3 => ?_)))))
     refine ops_val (yld_assign rfl) rfl (ops_nil (fin_next rfl ?_))
     cases r3
     ·
      replace hr3 := ne_of_beq_false hr3
      try dsimp only [Con.kind, Con.parts, Con.name, Con.lo, Con.hi, Con.cap, Con.ad] at hr3
      refine run_cond_f rfl (run_seq (run_seq (run_region (ops_valB (yld_eql rfl rfl) rfl fun r4 hr4 => ?_))))
      refine ops_val (yld_assign rfl) rfl (ops_nil (fin_next rfl ?_))
      cases r4
      ·
       replace hr4 := ne_of_beq_false hr4
       try dsimp only [Con.kind, Con.parts, Con.name, Con.lo, Con.hi, Con.cap, Con.ad] at hr4
       refine run_cond_f rfl (run_seq (run_region (ops_valB (yld_eql rfl rfl) rfl fun r5 hr5 => ?_)))
       refine ops_val (yld_assign rfl) rfl (ops_nil (fin_next rfl ?_))
       cases r5
       ·
        replace hr5 := ne_of_beq_false hr5
        try dsimp only [Con.kind, Con.parts, Con.name, Con.lo, Con.hi, Con.cap, Con.ad] at hr5
        refine run_cond_f rfl (run_region (ops_valB (yld_eql rfl rfl) rfl fun r6 hr6 => ?_))
        refine ops_val (yld_assign rfl) rfl (ops_nil (fin_next rfl ?_))
        cases r6
        ·
         replace hr6 := ne_of_beq_false hr6
         try dsimp only [Con.kind, Con.parts, Con.name, Con.lo, Con.hi, Con.cap, Con.ad] at hr6
         refine run_cond_f rfl (run_skip (fin_next rfl (run_seq (run_region (ops_val (yld_assign rfl) rfl (ops_nil (fin_next rfl ?_)))))))
         refine run_ret ?_
         exact ret1 Tryz.results20 () (get_int rfl (by unfold Ax.check; simp only [hus]; simp_all)) (.refl _) (fun _ _ _ => trivial)
        ·
         replace hr6 := eq_of_beq hr6
         try dsimp only [Con.kind, Con.parts, Con.name, Con.lo, Con.hi, Con.cap, Con.ad] at hr6
         refine run_cond_t rfl (run_seq (run_region (ops_val (yld_field Tryz.runUnderlying41 rfl rfl rfl Tryz.sizeOf38) rfl ?_)))
         refine ops_val (yld_loadS 1 Tryz.isAgg38 Tryz.sizeOf38 rfl rfl rfl) rfl ?_
         refine ops_callB (isBare_c _ (.mk kr nr lr hr ar cr pr) (Nat.le_refl _) hok.right) rfl (.refl _) (fun v _ h => ⟨h.1.2.1, trivial⟩) rfl fun r7 hr7 => ?_
         refine ops_nil (fin_next rfl ?_)
         cases r7
         ·
          try dsimp only [Con.kind, Con.parts, Con.name, Con.lo, Con.hi, Con.cap, Con.ad] at hr7
          refine run_cond_f rfl (run_skip (fin_next rfl (run_seq (run_region (ops_val (yld_assign rfl) rfl (ops_nil (fin_next rfl ?_)))))))
          refine run_ret ?_
          exact ret1 Tryz.results20 () (get_int rfl (by unfold Ax.check; simp only [hus]; simp_all)) (.refl _) (fun _ _ _ => trivial)
         ·
          try dsimp only [Con.kind, Con.parts, Con.name, Con.lo, Con.hi, Con.cap, Con.ad] at hr7
          refine run_cond_t rfl (run_seq (run_region (ops_val (yld_assign rfl) rfl (ops_nil (fin_next rfl (run_ret ?_))))))
          exact ret1 Tryz.results20 () (get_int rfl (by unfold Ax.check; simp only [hus]; simp_all)) (.refl _) (fun _ _ _ => trivial)
       ·
        replace hr5 := eq_of_beq hr5
        try dsimp only [Con.kind, Con.parts, Con.name, Con.lo, Con.hi, Con.cap, Con.ad] at hr5
        refine run_cond_t rfl (run_skip (fin_next rfl (run_cond_t rfl (run_seq (run_region (ops_val (yld_field Tryz.runUnderlying41 rfl rfl rfl Tryz.sizeOf38) rfl ?_))))))
        refine ops_val (yld_loadS 1 Tryz.isAgg38 Tryz.sizeOf38 rfl rfl rfl) rfl ?_
        refine ops_callB (isBare_c _ (.mk kr nr lr hr ar cr pr) (Nat.le_refl _) hok.right) rfl (.refl _) (fun v _ h => ⟨h.1.2.1, trivial⟩) rfl fun r8 hr8 => ?_
        refine ops_nil (fin_next rfl ?_)
        cases r8
        ·
         try dsimp only [Con.kind, Con.parts, Con.name, Con.lo, Con.hi, Con.cap, Con.ad] at hr8
         refine run_cond_f rfl (run_skip (fin_next rfl (run_seq (run_region (ops_val (yld_assign rfl) rfl (ops_nil (fin_next rfl ?_)))))))
         refine run_ret ?_
         exact ret1 Tryz.results20 () (get_int rfl (by unfold Ax.check; simp only [hus]; simp_all)) (.refl _) (fun _ _ _ => trivial)
        ·
         try dsimp only [Con.kind, Con.parts, Con.name, Con.lo, Con.hi, Con.cap, Con.ad] at hr8
         refine run_cond_t rfl (run_seq (run_region (ops_val (yld_assign rfl) rfl (ops_nil (fin_next rfl (run_ret ?_))))))
         exact ret1 Tryz.results20 () (get_int rfl (by unfold Ax.check; simp only [hus]; simp_all)) (.refl _) (fun _ _ _ => trivial)
      ·
       replace hr4 := eq_of_beq hr4
       try dsimp only [Con.kind, Con.parts, Con.name, Con.lo, Con.hi, Con.cap, Con.ad] at hr4
       refine run_cond_t rfl (run_skip (fin_next rfl (run_cond_t rfl (run_seq (run_region (ops_val (yld_field Tryz.runUnderlying41 rfl rfl rfl Tryz.sizeOf38) rfl ?_))))))
       refine ops_val (yld_loadS 1 Tryz.isAgg38 Tryz.sizeOf38 rfl rfl rfl) rfl ?_
       refine ops_callB (isBare_c _ (.mk kr nr lr hr ar cr pr) (Nat.le_refl _) hok.right) rfl (.refl _) (fun v _ h => ⟨h.1.2.1, trivial⟩) rfl fun r9 hr9 => ?_
       refine ops_nil (fin_next rfl ?_)
       cases r9
       ·
        try dsimp only [Con.kind, Con.parts, Con.name, Con.lo, Con.hi, Con.cap, Con.ad] at hr9
        refine run_cond_f rfl (run_skip (fin_next rfl (run_seq (run_region (ops_val (yld_assign rfl) rfl (ops_nil (fin_next rfl ?_)))))))
        refine run_ret ?_
        exact ret1 Tryz.results20 () (get_int rfl (by unfold Ax.check; simp only [hus]; simp_all)) (.refl _) (fun _ _ _ => trivial)
       ·
        try dsimp only [Con.kind, Con.parts, Con.name, Con.lo, Con.hi, Con.cap, Con.ad] at hr9
        refine run_cond_t rfl (run_seq (run_region (ops_val (yld_assign rfl) rfl (ops_nil (fin_next rfl (run_ret ?_))))))
        exact ret1 Tryz.results20 () (get_int rfl (by unfold Ax.check; simp only [hus]; simp_all)) (.refl _) (fun _ _ _ => trivial)
     ·
      replace hr3 := eq_of_beq hr3
      try dsimp only [Con.kind, Con.parts, Con.name, Con.lo, Con.hi, Con.cap, Con.ad] at hr3
      refine run_cond_t rfl (run_seq (run_region (ops_val (yld_field Tryz.runUnderlying41 rfl rfl rfl Tryz.sizeOf38) rfl ?_)))
      refine ops_val (yld_loadS 1 Tryz.isAgg38 Tryz.sizeOf38 rfl rfl rfl) rfl ?_
      refine ops_callB (isBare_c _ (.mk kl nl ll hl al cl pl) (Nat.le_refl _) hok.left) rfl (.refl _) (fun v _ h => ⟨h.1.1, trivial⟩) rfl fun r10 hr10 => ?_
      refine ops_val (yld_move rfl) rfl ?_
      refine ops_cut 4 ((Con.bare (.mk kl nl ll hl al cl pl)) || (Con.bare (.mk kr nr lr hr ar cr pr))) (fun r => [(0, .agg #[.int .i64 k, .bool op, .int .i64 kl, str nl, .int .i64 ll, .int .i64 hl, .slice al pl.length cl, .int .i64 kr, str nr, .int .i64 lr, .int .i64 hr, .slice ar pr.length cr, .slice ad rs.length cap, str ro, str a, str b]), (1, .pointer (some ⟨b1, 0, none⟩)), (2, .int .i64 0), (6, .agg #[.int .i64 k, .bool op, .int .i64 kl, str nl, .int .i64 ll, .int .i64 hl, .slice al pl.length cl, .int .i64 kr, str nr, .int .i64 lr, .int .i64 hr, .slice ar pr.length cr, .slice ad rs.length cap, str ro, str a, str b]), (7, .bool true), (8, .bool false), (9, .pointer (some ⟨b1, 0, none⟩)), (10, .int .i64 k), (11, .pointer (some (rad (some ⟨0, 0, none⟩) (k.toNat * 7)))), (12, .agg #[.bool false, .bool false, .bool uo, .bool ua, .bool ub, .int .i64 um, .int .i64 un]), (3, .pointer (some ⟨b2, 0, none⟩)), (13, .agg #[.int .i64 k, .bool op, .int .i64 kl, str nl, .int .i64 ll, .int .i64 hl, .slice al pl.length cl, .int .i64 kr, str nr, .int .i64 lr, .int .i64 hr, .slice ar pr.length cr, .slice ad rs.length cap, str ro, str a, str b]), (14, .agg #[.bool false, .bool false, .bool uo, .bool ua, .bool ub, .int .i64 um, .int .i64 un]), (15, .bool true), (16, .bool false), (17, .pointer (some ⟨b2, 0, none⟩)), (18, .bool false), (25, .pointer (some ⟨b2, 1, none⟩)), (26, .bool false), (33, .pointer (some ⟨b1, 0, none⟩)), (34, .int .i64 k), (36, .bool true), (35, .bool true), (44, .bool r)]) ?_ fun r11 hr11 => ?_
      ·
       cases r10
       ·
        have qr11 := hr10
        try dsimp only [Con.kind, Con.parts, Con.name, Con.lo, Con.hi, Con.cap, Con.ad] at hr10
        refine ops_yes rfl rfl (ops_val (yld_field Tryz.runUnderlying41 rfl rfl rfl Tryz.sizeOf38) rfl ?_)
        refine ops_yes rfl rfl (ops_val (yld_loadS 1 Tryz.isAgg38 Tryz.sizeOf38 rfl rfl rfl) rfl ?_)
        refine ops_yes rfl rfl (ops_callB (isBare_c _ (.mk kr nr lr hr ar cr pr) (Nat.le_refl _) hok.right) rfl (.refl _) (fun v _ h => ⟨h.1.2.1, trivial⟩) rfl fun r12 hr12 => ?_)
        refine ops_val (yld_pick_f rfl rfl) rfl ?_
        refine ops_nil (fin_inv rfl ?_)
        exact met ⟨rfl, rfl, rfl, rfl, rfl, rfl, rfl, rfl, rfl, rfl, rfl, rfl, rfl, rfl, rfl, rfl, rfl, rfl, rfl, rfl, rfl, rfl, rfl, (get_bool rfl (jof qr11 hr12)), trivial⟩
       ·
        have qr11 := hr10
        try dsimp only [Con.kind, Con.parts, Con.name, Con.lo, Con.hi, Con.cap, Con.ad] at hr10
        refine ops_no rfl rfl rfl rfl (ops_no rfl rfl rfl rfl (ops_no rfl rfl rfl rfl (ops_val (yld_pick_t rfl rfl) rfl ?_)))
        refine ops_nil (fin_inv rfl ?_)
        exact met ⟨rfl, rfl, rfl, rfl, rfl, rfl, rfl, rfl, rfl, rfl, rfl, rfl, rfl, rfl, rfl, rfl, rfl, rfl, rfl, rfl, rfl, rfl, rfl, (get_bool rfl (jot qr11)), trivial⟩
      ·
       refine ops_nil (fin_next rfl ?_)
       cases r11
       ·
        simp at hr11
        try dsimp only [Con.kind, Con.parts, Con.name, Con.lo, Con.hi, Con.cap, Con.ad] at hr11
        refine run_cond_f rfl (run_skip (fin_next rfl (run_seq (run_region (ops_val (yld_assign rfl) rfl (ops_nil (fin_next rfl ?_)))))))
        refine run_ret ?_
        exact ret1 Tryz.results20 () (get_int rfl (by unfold Ax.check; simp only [hus]; simp_all)) (.refl _) (fun _ _ _ => trivial)
       ·
        simp at hr11
        try dsimp only [Con.kind, Con.parts, Con.name, Con.lo, Con.hi, Con.cap, Con.ad] at hr11
        refine run_cond_t rfl (run_seq (run_region (ops_val (yld_assign rfl) rfl (ops_nil (fin_next rfl (run_ret ?_))))))
        exact ret1 Tryz.results20 () (get_int rfl (by unfold Ax.check; simp only [hus]; simp_all)) (.refl _) (fun _ _ _ => trivial)
    ·
     try dsimp only [Con.kind, Con.parts, Con.name, Con.lo, Con.hi, Con.cap, Con.ad] at hur
     refine run_cond_t rfl (run_seq (run_region (ops_val (yld_field Tryz.runUnderlying41 rfl rfl rfl Tryz.sizeOf38) rfl ?_)))
     refine ops_val (yld_loadS 1 Tryz.isAgg38 Tryz.sizeOf38 rfl rfl rfl) rfl ?_
     refine ops_call (checkConcept_c (.mk kr nr lr hr ar cr pr) hok.right) rfl (.refl _) (fun v _ h => ⟨h.1.2.1, h.2.1, trivial⟩) rfl fun _ => ?_
     refine ops_val (yld_assign rfl) rfl (ops_nil (fin_next rfl (run_seq (run_region (ops_val (yld_move rfl) rfl (ops_valB (yld_neq rfl rfl) rfl fun r13 hr13 => ?_))))))
     refine ops_nil (fin_next rfl ?_)
     cases r13
     ·
      replace hr13 := eq_of_bne hr13
      try dsimp only [Con.kind, Con.parts, Con.name, Con.lo, Con.hi, Con.cap, Con.ad] at hr13
      refine run_cond_f rfl (run_skip (fin_next rfl (run_seq (run_seq (run_region (ops_val (yld_field Tryz.runUnderlying41 rfl rfl rfl Tryz.sizeOf3) rfl ?_))))))
      refine ops_val (yld_load 1 Tryz.isAgg3 rfl rfl rfl) rfl ?_
      refine ops_nil (fin_next rfl (run_block (run_seq (run_region (ops_valB (yld_eql rfl rfl) rfl fun r14 hr14 => ?_)))))
      refine ops_val (yld_assign rfl) rfl (ops_nil (fin_next rfl ?_))
      cases r14
      ·
       replace hr14 := ne_of_beq_false hr14
       try dsimp only [Con.kind, Con.parts, Con.name, Con.lo, Con.hi, Con.cap, Con.ad] at hr14
       refine run_cond_f rfl (run_seq (run_seq (run_region (ops_valB (yld_eql rfl rfl) rfl fun r15 hr15 => ?_))))
       refine ops_val (yld_assign rfl) rfl (ops_nil (fin_next rfl ?_))
       cases r15
       ·
        replace hr15 := ne_of_beq_false hr15
        try dsimp only [Con.kind, Con.parts, Con.name, Con.lo, Con.hi, Con.cap, Con.ad] at hr15
        refine run_cond_f rfl (run_seq (run_region (ops_valB (yld_eql rfl rfl) rfl fun r16 hr16 => ?_)))
        refine ops_val (yld_assign rfl) rfl (ops_nil (fin_next rfl ?_))
        cases r16
        ·
         replace hr16 := ne_of_beq_false hr16
         try dsimp only [Con.kind, Con.parts, Con.name, Con.lo, Con.hi, Con.cap, Con.ad] at hr16
         refine run_cond_f rfl (run_region (ops_valB (yld_eql rfl rfl) rfl fun r17 hr17 => ?_))
         refine ops_val (yld_assign rfl) rfl (ops_nil (fin_next rfl ?_))
         cases r17
         ·
          replace hr17 := ne_of_beq_false hr17
          try dsimp only [Con.kind, Con.parts, Con.name, Con.lo, Con.hi, Con.cap, Con.ad] at hr17
          refine run_cond_f rfl (run_skip (fin_next rfl (run_seq (run_region (ops_val (yld_assign rfl) rfl (ops_nil (fin_next rfl ?_)))))))
          refine run_ret ?_
          exact ret1 Tryz.results20 () (get_int rfl (by unfold Ax.check; simp only [hus]; simp_all)) (.refl _) (fun _ _ _ => trivial)
         ·
          replace hr17 := eq_of_beq hr17
          try dsimp only [Con.kind, Con.parts, Con.name, Con.lo, Con.hi, Con.cap, Con.ad] at hr17
          refine run_cond_t rfl (run_seq (run_region (ops_val (yld_field Tryz.runUnderlying41 rfl rfl rfl Tryz.sizeOf38) rfl ?_)))
          refine ops_val (yld_loadS 1 Tryz.isAgg38 Tryz.sizeOf38 rfl rfl rfl) rfl ?_
          refine ops_callB (isBare_c _ (.mk kr nr lr hr ar cr pr) (Nat.le_refl _) hok.right) rfl (.refl _) (fun v _ h => ⟨h.1.2.1, trivial⟩) rfl fun r18 hr18 => ?_
          refine ops_nil (fin_next rfl ?_)
          cases r18
          ·
           try dsimp only [Con.kind, Con.parts, Con.name, Con.lo, Con.hi, Con.cap, Con.ad] at hr18
           refine run_cond_f rfl (run_skip (fin_next rfl (run_seq (run_region (ops_val (yld_assign rfl) rfl (ops_nil (fin_next rfl ?_)))))))
           refine run_ret ?_
           exact ret1 Tryz.results20 () (get_int rfl (by unfold Ax.check; simp only [hus]; simp_all)) (.refl _) (fun _ _ _ => trivial)
          ·
           try dsimp only [Con.kind, Con.parts, Con.name, Con.lo, Con.hi, Con.cap, Con.ad] at hr18
           refine run_cond_t rfl (run_seq (run_region (ops_val (yld_assign rfl) rfl (ops_nil (fin_next rfl (run_ret ?_))))))
           exact ret1 Tryz.results20 () (get_int rfl (by unfold Ax.check; simp only [hus]; simp_all)) (.refl _) (fun _ _ _ => trivial)
        ·
         replace hr16 := eq_of_beq hr16
         try dsimp only [Con.kind, Con.parts, Con.name, Con.lo, Con.hi, Con.cap, Con.ad] at hr16
         refine run_cond_t rfl (run_skip (fin_next rfl (run_cond_t rfl (run_seq (run_region (ops_val (yld_field Tryz.runUnderlying41 rfl rfl rfl Tryz.sizeOf38) rfl ?_))))))
         refine ops_val (yld_loadS 1 Tryz.isAgg38 Tryz.sizeOf38 rfl rfl rfl) rfl ?_
         refine ops_callB (isBare_c _ (.mk kr nr lr hr ar cr pr) (Nat.le_refl _) hok.right) rfl (.refl _) (fun v _ h => ⟨h.1.2.1, trivial⟩) rfl fun r19 hr19 => ?_
         refine ops_nil (fin_next rfl ?_)
         cases r19
         ·
          try dsimp only [Con.kind, Con.parts, Con.name, Con.lo, Con.hi, Con.cap, Con.ad] at hr19
          refine run_cond_f rfl (run_skip (fin_next rfl (run_seq (run_region (ops_val (yld_assign rfl) rfl (ops_nil (fin_next rfl ?_)))))))
          refine run_ret ?_
          exact ret1 Tryz.results20 () (get_int rfl (by unfold Ax.check; simp only [hus]; simp_all)) (.refl _) (fun _ _ _ => trivial)
         ·
          try dsimp only [Con.kind, Con.parts, Con.name, Con.lo, Con.hi, Con.cap, Con.ad] at hr19
          refine run_cond_t rfl (run_seq (run_region (ops_val (yld_assign rfl) rfl (ops_nil (fin_next rfl (run_ret ?_))))))
          exact ret1 Tryz.results20 () (get_int rfl (by unfold Ax.check; simp only [hus]; simp_all)) (.refl _) (fun _ _ _ => trivial)
       ·
        replace hr15 := eq_of_beq hr15
        try dsimp only [Con.kind, Con.parts, Con.name, Con.lo, Con.hi, Con.cap, Con.ad] at hr15
        refine run_cond_t rfl (run_skip (fin_next rfl (run_cond_t rfl (run_seq (run_region (ops_val (yld_field Tryz.runUnderlying41 rfl rfl rfl Tryz.sizeOf38) rfl ?_))))))
        refine ops_val (yld_loadS 1 Tryz.isAgg38 Tryz.sizeOf38 rfl rfl rfl) rfl ?_
        refine ops_callB (isBare_c _ (.mk kr nr lr hr ar cr pr) (Nat.le_refl _) hok.right) rfl (.refl _) (fun v _ h => ⟨h.1.2.1, trivial⟩) rfl fun r20 hr20 => ?_
        refine ops_nil (fin_next rfl ?_)
        cases r20
        ·
         try dsimp only [Con.kind, Con.parts, Con.name, Con.lo, Con.hi, Con.cap, Con.ad] at hr20
         refine run_cond_f rfl (run_skip (fin_next rfl (run_seq (run_region (ops_val (yld_assign rfl) rfl (ops_nil (fin_next rfl ?_)))))))
         refine run_ret ?_
         exact ret1 Tryz.results20 () (get_int rfl (by unfold Ax.check; simp only [hus]; simp_all)) (.refl _) (fun _ _ _ => trivial)
        ·
         try dsimp only [Con.kind, Con.parts, Con.name, Con.lo, Con.hi, Con.cap, Con.ad] at hr20
         refine run_cond_t rfl (run_seq (run_region (ops_val (yld_assign rfl) rfl (ops_nil (fin_next rfl (run_ret ?_))))))
         exact ret1 Tryz.results20 () (get_int rfl (by unfold Ax.check; simp only [hus]; simp_all)) (.refl _) (fun _ _ _ => trivial)
      ·
       replace hr14 := eq_of_beq hr14
       try dsimp only [Con.kind, Con.parts, Con.name, Con.lo, Con.hi, Con.cap, Con.ad] at hr14
       refine run_cond_t rfl (run_seq (run_region (ops_val (yld_field Tryz.runUnderlying41 rfl rfl rfl Tryz.sizeOf38) rfl ?_)))
       refine ops_val (yld_loadS 1 Tryz.isAgg38 Tryz.sizeOf38 rfl rfl rfl) rfl ?_
       refine ops_callB (isBare_c _ (.mk kl nl ll hl al cl pl) (Nat.le_refl _) hok.left) rfl (.refl _) (fun v _ h => ⟨h.1.1, trivial⟩) rfl fun r21 hr21 => ?_
       refine ops_val (yld_move rfl) rfl ?_
       refine ops_cut 4 ((Con.bare (.mk kl nl ll hl al cl pl)) || (Con.bare (.mk kr nr lr hr ar cr pr))) (fun r => [(0, .agg #[.int .i64 k, .bool op, .int .i64 kl, str nl, .int .i64 ll, .int .i64 hl, .slice al pl.length cl, .int .i64 kr, str nr, .int .i64 lr, .int .i64 hr, .slice ar pr.length cr, .slice ad rs.length cap, str ro, str a, str b]), (1, .pointer (some ⟨b1, 0, none⟩)), (2, .int .i64 0), (6, .agg #[.int .i64 k, .bool op, .int .i64 kl, str nl, .int .i64 ll, .int .i64 hl, .slice al pl.length cl, .int .i64 kr, str nr, .int .i64 lr, .int .i64 hr, .slice ar pr.length cr, .slice ad rs.length cap, str ro, str a, str b]), (7, .bool true), (8, .bool false), (9, .pointer (some ⟨b1, 0, none⟩)), (10, .int .i64 k), (11, .pointer (some (rad (some ⟨0, 0, none⟩) (k.toNat * 7)))), (12, .agg #[.bool false, .bool true, .bool uo, .bool ua, .bool ub, .int .i64 um, .int .i64 un]), (3, .pointer (some ⟨b2, 0, none⟩)), (13, .agg #[.int .i64 k, .bool op, .int .i64 kl, str nl, .int .i64 ll, .int .i64 hl, .slice al pl.length cl, .int .i64 kr, str nr, .int .i64 lr, .int .i64 hr, .slice ar pr.length cr, .slice ad rs.length cap, str ro, str a, str b]), (14, .agg #[.bool false, .bool true, .bool uo, .bool ua, .bool ub, .int .i64 um, .int .i64 un]), (15, .bool true), (16, .bool false), (17, .pointer (some ⟨b2, 0, none⟩)), (18, .bool false), (25, .pointer (some ⟨b2, 1, none⟩)), (26, .bool true), (27, .pointer (some ⟨b1, 7, none⟩)), (28, .agg #[.int .i64 kr, str nr, .int .i64 lr, .int .i64 hr, .slice ar pr.length cr]), (29, .int .i64 (Con.check (.mk kr nr lr hr ar cr pr))), (5, .int .i64 (Con.check (.mk kr nr lr hr ar cr pr))), (30, .int .i64 (Con.check (.mk kr nr lr hr ar cr pr))), (31, .bool false), (33, .pointer (some ⟨b1, 0, none⟩)), (34, .int .i64 k), (36, .bool true), (35, .bool true), (44, .bool r)]) ?_ fun r22 hr22 => ?_
       ·
        cases r21
        ·
         have qr22 := hr21
         try dsimp only [Con.kind, Con.parts, Con.name, Con.lo, Con.hi, Con.cap, Con.ad] at hr21
         refine ops_yes rfl rfl (ops_val (yld_field Tryz.runUnderlying41 rfl rfl rfl Tryz.sizeOf38) rfl ?_)
         refine ops_yes rfl rfl (ops_val (yld_loadS 1 Tryz.isAgg38 Tryz.sizeOf38 rfl rfl rfl) rfl ?_)
         refine ops_yes rfl rfl (ops_callB (isBare_c _ (.mk kr nr lr hr ar cr pr) (Nat.le_refl _) hok.right) rfl (.refl _) (fun v _ h => ⟨h.1.2.1, trivial⟩) rfl fun r23 hr23 => ?_)
         refine ops_val (yld_pick_f rfl rfl) rfl ?_
         refine ops_nil (fin_inv rfl ?_)
         exact met ⟨rfl, rfl, rfl, rfl, rfl, rfl, rfl, rfl, rfl, rfl, rfl, rfl, rfl, rfl, rfl, rfl, rfl, rfl, rfl, rfl, rfl, rfl, rfl, rfl, rfl, rfl, rfl, rfl, rfl, (get_bool rfl (jof qr22 hr23)), trivial⟩
        ·
         have qr22 := hr21
         try dsimp only [Con.kind, Con.parts, Con.name, Con.lo, Con.hi, Con.cap, Con.ad] at hr21
         refine ops_no rfl rfl rfl rfl (ops_no rfl rfl rfl rfl (ops_no rfl rfl rfl rfl (ops_val (yld_pick_t rfl rfl) rfl ?_)))
         refine ops_nil (fin_inv rfl ?_)
         exact met ⟨rfl, rfl, rfl, rfl, rfl, rfl, rfl, rfl, rfl, rfl, rfl, rfl, rfl, rfl, rfl, rfl, rfl, rfl, rfl, rfl, rfl, rfl, rfl, rfl, rfl, rfl, rfl, rfl, rfl, (get_bool rfl (jot qr22)), trivial⟩
       ·
        refine ops_nil (fin_next rfl ?_)
        cases r22
        ·
         simp at hr22
         try dsimp only [Con.kind, Con.parts, Con.name, Con.lo, Con.hi, Con.cap, Con.ad] at hr22
         refine run_cond_f rfl (run_skip (fin_next rfl (run_seq (run_region (ops_val (yld_assign rfl) rfl (ops_nil (fin_next rfl ?_)))))))
         refine run_ret ?_
         exact ret1 Tryz.results20 () (get_int rfl (by unfold Ax.check; simp only [hus]; simp_all)) (.refl _) (fun _ _ _ => trivial)
        ·
         simp at hr22
         try dsimp only [Con.kind, Con.parts, Con.name, Con.lo, Con.hi, Con.cap, Con.ad] at hr22
         refine run_cond_t rfl (run_seq (run_region (ops_val (yld_assign rfl) rfl (ops_nil (fin_next rfl (run_ret ?_))))))
         exact ret1 Tryz.results20 () (get_int rfl (by unfold Ax.check; simp only [hus]; simp_all)) (.refl _) (fun _ _ _ => trivial)
     ·
      replace hr13 := ne_of_bne hr13
      try dsimp only [Con.kind, Con.parts, Con.name, Con.lo, Con.hi, Con.cap, Con.ad] at hr13
      refine run_cond_t rfl (run_seq (run_region (ops_val (yld_move rfl) rfl (ops_val (yld_assign rfl) rfl (ops_nil (fin_next rfl (run_ret ?_)))))))
      exact ret1 Tryz.results20 () (get_int rfl (by unfold Ax.check; simp only [hus]; simp_all)) (.refl _) (fun _ _ _ => trivial)
   ·
    try dsimp only [Con.kind, Con.parts, Con.name, Con.lo, Con.hi, Con.cap, Con.ad] at hul
    refine run_cond_t rfl (run_seq (run_region (ops_val (yld_field Tryz.runUnderlying41 rfl rfl rfl Tryz.sizeOf38) rfl ?_)))
    refine ops_val (yld_loadS 1 Tryz.isAgg38 Tryz.sizeOf38 rfl rfl rfl) rfl ?_
    refine ops_call (checkConcept_c (.mk kl nl ll hl al cl pl) hok.left) rfl (.refl _) (fun v _ h => ⟨h.1.1, h.2.1, trivial⟩) rfl fun _ => ?_
    refine ops_val (yld_assign rfl) rfl (ops_nil (fin_next rfl (run_seq (run_region (ops_val (yld_move rfl) rfl (ops_valB (yld_neq rfl rfl) rfl fun r24 hr24 => ?_))))))
    refine ops_nil (fin_next rfl ?_)
    cases r24
    ·
     replace hr24 := eq_of_bne hr24
     try dsimp only [Con.kind, Con.parts, Con.name, Con.lo, Con.hi, Con.cap, Con.ad] at hr24
     refine run_cond_f rfl (run_skip (fin_next rfl (run_seq (run_seq (run_region (ops_val (yld_field Tryz.runUnderlying87 rfl rfl rfl Tryz.sizeOf4) rfl ?_))))))
     refine ops_val (yld_load 0 Tryz.isAgg4 rfl rfl rfl) rfl ?_
     refine ops_nil (fin_next rfl ?_)
     cases ur
     ·
      try dsimp only [Con.kind, Con.parts, Con.name, Con.lo, Con.hi, Con.cap, Con.ad] at hur
      refine run_cond_f rfl (run_skip (fin_next rfl (run_seq (run_seq (run_region (ops_val (yld_field Tryz.runUnderlying41 rfl rfl rfl Tryz.sizeOf3) rfl ?_))))))
      refine ops_val (yld_load 1 Tryz.isAgg3 rfl rfl rfl) rfl ?_
      refine ops_nil (fin_next rfl (run_block (run_seq (run_region (ops_valB (yld_eql rfl rfl) rfl fun r25 hr25 => ?_)))))
      refine ops_val (yld_assign rfl) rfl (ops_nil (fin_next rfl ?_))
      cases r25
      ·
       replace hr25 := ne_of_beq_false hr25
       try dsimp only [Con.kind, Con.parts, Con.name, Con.lo, Con.hi, Con.cap, Con.ad] at hr25
       refine run_cond_f rfl (run_seq (run_seq (run_region (ops_valB (yld_eql rfl rfl) rfl fun r26 hr26 => ?_))))
       refine ops_val (yld_assign rfl) rfl (ops_nil (fin_next rfl ?_))
       cases r26
       ·
        replace hr26 := ne_of_beq_false hr26
        try dsimp only [Con.kind, Con.parts, Con.name, Con.lo, Con.hi, Con.cap, Con.ad] at hr26
        refine run_cond_f rfl (run_seq (run_region (ops_valB (yld_eql rfl rfl) rfl fun r27 hr27 => ?_)))
        refine ops_val (yld_assign rfl) rfl (ops_nil (fin_next rfl ?_))
        cases r27
        ·
         replace hr27 := ne_of_beq_false hr27
         try dsimp only [Con.kind, Con.parts, Con.name, Con.lo, Con.hi, Con.cap, Con.ad] at hr27
         refine run_cond_f rfl (run_region (ops_valB (yld_eql rfl rfl) rfl fun r28 hr28 => ?_))
         refine ops_val (yld_assign rfl) rfl (ops_nil (fin_next rfl ?_))
         cases r28
         ·
          replace hr28 := ne_of_beq_false hr28
          try dsimp only [Con.kind, Con.parts, Con.name, Con.lo, Con.hi, Con.cap, Con.ad] at hr28
          refine run_cond_f rfl (run_skip (fin_next rfl (run_seq (run_region (ops_val (yld_assign rfl) rfl (ops_nil (fin_next rfl ?_)))))))
          refine run_ret ?_
          exact ret1 Tryz.results20 () (get_int rfl (by unfold Ax.check; simp only [hus]; simp_all)) (.refl _) (fun _ _ _ => trivial)
         ·
          replace hr28 := eq_of_beq hr28
          try dsimp only [Con.kind, Con.parts, Con.name, Con.lo, Con.hi, Con.cap, Con.ad] at hr28
          refine run_cond_t rfl (run_seq (run_region (ops_val (yld_field Tryz.runUnderlying41 rfl rfl rfl Tryz.sizeOf38) rfl ?_)))
          refine ops_val (yld_loadS 1 Tryz.isAgg38 Tryz.sizeOf38 rfl rfl rfl) rfl ?_
          refine ops_callB (isBare_c _ (.mk kr nr lr hr ar cr pr) (Nat.le_refl _) hok.right) rfl (.refl _) (fun v _ h => ⟨h.1.2.1, trivial⟩) rfl fun r29 hr29 => ?_
          refine ops_nil (fin_next rfl ?_)
          cases r29
          ·
           try dsimp only [Con.kind, Con.parts, Con.name, Con.lo, Con.hi, Con.cap, Con.ad] at hr29
           refine run_cond_f rfl (run_skip (fin_next rfl (run_seq (run_region (ops_val (yld_assign rfl) rfl (ops_nil (fin_next rfl ?_)))))))
           refine run_ret ?_
           exact ret1 Tryz.results20 () (get_int rfl (by unfold Ax.check; simp only [hus]; simp_all)) (.refl _) (fun _ _ _ => trivial)
          ·
           try dsimp only [Con.kind, Con.parts, Con.name, Con.lo, Con.hi, Con.cap, Con.ad] at hr29
           refine run_cond_t rfl (run_seq (run_region (ops_val (yld_assign rfl) rfl (ops_nil (fin_next rfl (run_ret ?_))))))
           exact ret1 Tryz.results20 () (get_int rfl (by unfold Ax.check; simp only [hus]; simp_all)) (.refl _) (fun _ _ _ => trivial)
        ·
         replace hr27 := eq_of_beq hr27
         try dsimp only [Con.kind, Con.parts, Con.name, Con.lo, Con.hi, Con.cap, Con.ad] at hr27
         refine run_cond_t rfl (run_skip (fin_next rfl (run_cond_t rfl (run_seq (run_region (ops_val (yld_field Tryz.runUnderlying41 rfl rfl rfl Tryz.sizeOf38) rfl ?_))))))
         refine ops_val (yld_loadS 1 Tryz.isAgg38 Tryz.sizeOf38 rfl rfl rfl) rfl ?_
         refine ops_callB (isBare_c _ (.mk kr nr lr hr ar cr pr) (Nat.le_refl _) hok.right) rfl (.refl _) (fun v _ h => ⟨h.1.2.1, trivial⟩) rfl fun r30 hr30 => ?_
         refine ops_nil (fin_next rfl ?_)
         cases r30
         ·
          try dsimp only [Con.kind, Con.parts, Con.name, Con.lo, Con.hi, Con.cap, Con.ad] at hr30
          refine run_cond_f rfl (run_skip (fin_next rfl (run_seq (run_region (ops_val (yld_assign rfl) rfl (ops_nil (fin_next rfl ?_)))))))
          refine run_ret ?_
          exact ret1 Tryz.results20 () (get_int rfl (by unfold Ax.check; simp only [hus]; simp_all)) (.refl _) (fun _ _ _ => trivial)
         ·
          try dsimp only [Con.kind, Con.parts, Con.name, Con.lo, Con.hi, Con.cap, Con.ad] at hr30
          refine run_cond_t rfl (run_seq (run_region (ops_val (yld_assign rfl) rfl (ops_nil (fin_next rfl (run_ret ?_))))))
          exact ret1 Tryz.results20 () (get_int rfl (by unfold Ax.check; simp only [hus]; simp_all)) (.refl _) (fun _ _ _ => trivial)
       ·
        replace hr26 := eq_of_beq hr26
        try dsimp only [Con.kind, Con.parts, Con.name, Con.lo, Con.hi, Con.cap, Con.ad] at hr26
        refine run_cond_t rfl (run_skip (fin_next rfl (run_cond_t rfl (run_seq (run_region (ops_val (yld_field Tryz.runUnderlying41 rfl rfl rfl Tryz.sizeOf38) rfl ?_))))))
        refine ops_val (yld_loadS 1 Tryz.isAgg38 Tryz.sizeOf38 rfl rfl rfl) rfl ?_
        refine ops_callB (isBare_c _ (.mk kr nr lr hr ar cr pr) (Nat.le_refl _) hok.right) rfl (.refl _) (fun v _ h => ⟨h.1.2.1, trivial⟩) rfl fun r31 hr31 => ?_
        refine ops_nil (fin_next rfl ?_)
        cases r31
        ·
         try dsimp only [Con.kind, Con.parts, Con.name, Con.lo, Con.hi, Con.cap, Con.ad] at hr31
         refine run_cond_f rfl (run_skip (fin_next rfl (run_seq (run_region (ops_val (yld_assign rfl) rfl (ops_nil (fin_next rfl ?_)))))))
         refine run_ret ?_
         exact ret1 Tryz.results20 () (get_int rfl (by unfold Ax.check; simp only [hus]; simp_all)) (.refl _) (fun _ _ _ => trivial)
        ·
         try dsimp only [Con.kind, Con.parts, Con.name, Con.lo, Con.hi, Con.cap, Con.ad] at hr31
         refine run_cond_t rfl (run_seq (run_region (ops_val (yld_assign rfl) rfl (ops_nil (fin_next rfl (run_ret ?_))))))
         exact ret1 Tryz.results20 () (get_int rfl (by unfold Ax.check; simp only [hus]; simp_all)) (.refl _) (fun _ _ _ => trivial)
      ·
       replace hr25 := eq_of_beq hr25
       try dsimp only [Con.kind, Con.parts, Con.name, Con.lo, Con.hi, Con.cap, Con.ad] at hr25
       refine run_cond_t rfl (run_seq (run_region (ops_val (yld_field Tryz.runUnderlying41 rfl rfl rfl Tryz.sizeOf38) rfl ?_)))
       refine ops_val (yld_loadS 1 Tryz.isAgg38 Tryz.sizeOf38 rfl rfl rfl) rfl ?_
       refine ops_callB (isBare_c _ (.mk kl nl ll hl al cl pl) (Nat.le_refl _) hok.left) rfl (.refl _) (fun v _ h => ⟨h.1.1, trivial⟩) rfl fun r32 hr32 => ?_
       refine ops_val (yld_move rfl) rfl ?_
       refine ops_cut 4 ((Con.bare (.mk kl nl ll hl al cl pl)) || (Con.bare (.mk kr nr lr hr ar cr pr))) (fun r => [(0, .agg #[.int .i64 k, .bool op, .int .i64 kl, str nl, .int .i64 ll, .int .i64 hl, .slice al pl.length cl, .int .i64 kr, str nr, .int .i64 lr, .int .i64 hr, .slice ar pr.length cr, .slice ad rs.length cap, str ro, str a, str b]), (1, .pointer (some ⟨b1, 0, none⟩)), (2, .int .i64 0), (6, .agg #[.int .i64 k, .bool op, .int .i64 kl, str nl, .int .i64 ll, .int .i64 hl, .slice al pl.length cl, .int .i64 kr, str nr, .int .i64 lr, .int .i64 hr, .slice ar pr.length cr, .slice ad rs.length cap, str ro, str a, str b]), (7, .bool true), (8, .bool false), (9, .pointer (some ⟨b1, 0, none⟩)), (10, .int .i64 k), (11, .pointer (some (rad (some ⟨0, 0, none⟩) (k.toNat * 7)))), (12, .agg #[.bool true, .bool false, .bool uo, .bool ua, .bool ub, .int .i64 um, .int .i64 un]), (3, .pointer (some ⟨b2, 0, none⟩)), (13, .agg #[.int .i64 k, .bool op, .int .i64 kl, str nl, .int .i64 ll, .int .i64 hl, .slice al pl.length cl, .int .i64 kr, str nr, .int .i64 lr, .int .i64 hr, .slice ar pr.length cr, .slice ad rs.length cap, str ro, str a, str b]), (14, .agg #[.bool true, .bool false, .bool uo, .bool ua, .bool ub, .int .i64 um, .int .i64 un]), (15, .bool true), (16, .bool false), (17, .pointer (some ⟨b2, 0, none⟩)), (18, .bool true), (19, .pointer (some ⟨b1, 2, none⟩)), (20, .agg #[.int .i64 kl, str nl, .int .i64 ll, .int .i64 hl, .slice al pl.length cl]), (21, .int .i64 (Con.check (.mk kl nl ll hl al cl pl))), (4, .int .i64 (Con.check (.mk kl nl ll hl al cl pl))), (22, .int .i64 (Con.check (.mk kl nl ll hl al cl pl))), (23, .bool false), (25, .pointer (some ⟨b2, 1, none⟩)), (26, .bool false), (33, .pointer (some ⟨b1, 0, none⟩)), (34, .int .i64 k), (36, .bool true), (35, .bool true), (44, .bool r)]) ?_ fun r33 hr33 => ?_
       ·
        cases r32
        ·
         have qr33 := hr32
         try dsimp only [Con.kind, Con.parts, Con.name, Con.lo, Con.hi, Con.cap, Con.ad] at hr32
         refine ops_yes rfl rfl (ops_val (yld_field Tryz.runUnderlying41 rfl rfl rfl Tryz.sizeOf38) rfl ?_)
         refine ops_yes rfl rfl (ops_val (yld_loadS 1 Tryz.isAgg38 Tryz.sizeOf38 rfl rfl rfl) rfl ?_)
         refine ops_yes rfl rfl (ops_callB (isBare_c _ (.mk kr nr lr hr ar cr pr) (Nat.le_refl _) hok.right) rfl (.refl _) (fun v _ h => ⟨h.1.2.1, trivial⟩) rfl fun r34 hr34 => ?_)
         refine ops_val (yld_pick_f rfl rfl) rfl ?_
         refine ops_nil (fin_inv rfl ?_)
         exact met ⟨rfl, rfl, rfl, rfl, rfl, rfl, rfl, rfl, rfl, rfl, rfl, rfl, rfl, rfl, rfl, rfl, rfl, rfl, rfl, rfl, rfl, rfl, rfl, rfl, rfl, rfl, rfl, rfl, rfl, (get_bool rfl (jof qr33 hr34)), trivial⟩
        ·
         have qr33 := hr32
         try dsimp only [Con.kind, Con.parts, Con.name, Con.lo, Con.hi, Con.cap, Con.ad] at hr32
         refine ops_no rfl rfl rfl rfl (ops_no rfl rfl rfl rfl (ops_no rfl rfl rfl rfl (ops_val (yld_pick_t rfl rfl) rfl ?_)))
         refine ops_nil (fin_inv rfl ?_)
         exact met ⟨rfl, rfl, rfl, rfl, rfl, rfl, rfl, rfl, rfl, rfl, rfl, rfl, rfl, rfl, rfl, rfl, rfl, rfl, rfl, rfl, rfl, rfl, rfl, rfl, rfl, rfl, rfl, rfl, rfl, (get_bool rfl (jot qr33)), trivial⟩
       ·
        refine ops_nil (fin_next rfl ?_)
        cases r33
        ·
         simp at hr33
         try dsimp only [Con.kind, Con.parts, Con.name, Con.lo, Con.hi, Con.cap, Con.ad] at hr33
         refine run_cond_f rfl (run_skip (fin_next rfl (run_seq (run_region (ops_val (yld_assign rfl) rfl (ops_nil (fin_next rfl ?_)))))))
         refine run_ret ?_
         exact ret1 Tryz.results20 () (get_int rfl (by unfold Ax.check; simp only [hus]; simp_all)) (.refl _) (fun _ _ _ => trivial)
        ·
         simp at hr33
         try dsimp only [Con.kind, Con.parts, Con.name, Con.lo, Con.hi, Con.cap, Con.ad] at hr33
         refine run_cond_t rfl (run_seq (run_region (ops_val (yld_assign rfl) rfl (ops_nil (fin_next rfl (run_ret ?_))))))
         exact ret1 Tryz.results20 () (get_int rfl (by unfold Ax.check; simp only [hus]; simp_all)) (.refl _) (fun _ _ _ => trivial)
     ·
      try dsimp only [Con.kind, Con.parts, Con.name, Con.lo, Con.hi, Con.cap, Con.ad] at hur
      refine run_cond_t rfl (run_seq (run_region (ops_val (yld_field Tryz.runUnderlying41 rfl rfl rfl Tryz.sizeOf38) rfl ?_)))
      refine ops_val (yld_loadS 1 Tryz.isAgg38 Tryz.sizeOf38 rfl rfl rfl) rfl ?_
      refine ops_call (checkConcept_c (.mk kr nr lr hr ar cr pr) hok.right) rfl (.refl _) (fun v _ h => ⟨h.1.2.1, h.2.1, trivial⟩) rfl fun _ => ?_
      refine ops_val (yld_assign rfl) rfl (ops_nil (fin_next rfl (run_seq (run_region (ops_val (yld_move rfl) rfl (ops_valB (yld_neq rfl rfl) rfl fun r35 hr35 => ?_))))))
      refine ops_nil (fin_next rfl ?_)
      cases r35
      ·
       replace hr35 := eq_of_bne hr35
       try dsimp only [Con.kind, Con.parts, Con.name, Con.lo, Con.hi, Con.cap, Con.ad] at hr35
       refine run_cond_f rfl (run_skip (fin_next rfl (run_seq (run_seq (run_region (ops_val (yld_field Tryz.runUnderlying41 rfl rfl rfl Tryz.sizeOf3) rfl ?_))))))
       refine ops_val (yld_load 1 Tryz.isAgg3 rfl rfl rfl) rfl ?_
       refine ops_nil (fin_next rfl (run_block (run_seq (run_region (ops_valB (yld_eql rfl rfl) rfl fun r36 hr36 => ?_)))))
       refine ops_val (yld_assign rfl) rfl (ops_nil (fin_next rfl ?_))
       cases r36
       ·
        replace hr36 := ne_of_beq_false hr36
        try dsimp only [Con.kind, Con.parts, Con.name, Con.lo, Con.hi, Con.cap, Con.ad] at hr36
        refine run_cond_f rfl (run_seq (run_seq (run_region (ops_valB (yld_eql rfl rfl) rfl fun r37 hr37 => ?_))))
        refine ops_val (yld_assign rfl) rfl (ops_nil (fin_next rfl ?_))
        cases r37
        ·
         replace hr37 := ne_of_beq_false hr37
         try dsimp only [Con.kind, Con.parts, Con.name, Con.lo, Con.hi, Con.cap, Con.ad] at hr37
         refine run_cond_f rfl (run_seq (run_region (ops_valB (yld_eql rfl rfl) rfl fun r38 hr38 => ?_)))
         refine ops_val (yld_assign rfl) rfl (ops_nil (fin_next rfl ?_))
         cases r38
         ·
          replace hr38 := ne_of_beq_false hr38
          try dsimp only [Con.kind, Con.parts, Con.name, Con.lo, Con.hi, Con.cap, Con.ad] at hr38
          refine run_cond_f rfl (run_region (ops_valB (yld_eql rfl rfl) rfl fun r39 hr39 => ?_))
          refine ops_val (yld_assign rfl) rfl (ops_nil (fin_next rfl ?_))
          cases r39
          ·
           replace hr39 := ne_of_beq_false hr39
           try dsimp only [Con.kind, Con.parts, Con.name, Con.lo, Con.hi, Con.cap, Con.ad] at hr39
           refine run_cond_f rfl (run_skip (fin_next rfl (run_seq (run_region (ops_val (yld_assign rfl) rfl (ops_nil (fin_next rfl ?_)))))))
           refine run_ret ?_
           exact ret1 Tryz.results20 () (get_int rfl (by unfold Ax.check; simp only [hus]; simp_all)) (.refl _) (fun _ _ _ => trivial)
          ·
           replace hr39 := eq_of_beq hr39
           try dsimp only [Con.kind, Con.parts, Con.name, Con.lo, Con.hi, Con.cap, Con.ad] at hr39
           refine run_cond_t rfl (run_seq (run_region (ops_val (yld_field Tryz.runUnderlying41 rfl rfl rfl Tryz.sizeOf38) rfl ?_)))
           refine ops_val (yld_loadS 1 Tryz.isAgg38 Tryz.sizeOf38 rfl rfl rfl) rfl ?_
           refine ops_callB (isBare_c _ (.mk kr nr lr hr ar cr pr) (Nat.le_refl _) hok.right) rfl (.refl _) (fun v _ h => ⟨h.1.2.1, trivial⟩) rfl fun r40 hr40 => ?_
           refine ops_nil (fin_next rfl ?_)
           cases r40
           ·
            try dsimp only [Con.kind, Con.parts, Con.name, Con.lo, Con.hi, Con.cap, Con.ad] at hr40
            refine run_cond_f rfl (run_skip (fin_next rfl (run_seq (run_region (ops_val (yld_assign rfl) rfl (ops_nil (fin_next rfl ?_)))))))
            refine run_ret ?_
            exact ret1 Tryz.results20 () (get_int rfl (by unfold Ax.check; simp only [hus]; simp_all)) (.refl _) (fun _ _ _ => trivial)
           ·
            try dsimp only [Con.kind, Con.parts, Con.name, Con.lo, Con.hi, Con.cap, Con.ad] at hr40
            refine run_cond_t rfl (run_seq (run_region (ops_val (yld_assign rfl) rfl (ops_nil (fin_next rfl (run_ret ?_))))))
            exact ret1 Tryz.results20 () (get_int rfl (by unfold Ax.check; simp only [hus]; simp_all)) (.refl _) (fun _ _ _ => trivial)
         ·
          replace hr38 := eq_of_beq hr38
          try dsimp only [Con.kind, Con.parts, Con.name, Con.lo, Con.hi, Con.cap, Con.ad] at hr38
          refine run_cond_t rfl (run_skip (fin_next rfl (run_cond_t rfl (run_seq (run_region (ops_val (yld_field Tryz.runUnderlying41 rfl rfl rfl Tryz.sizeOf38) rfl ?_))))))
          refine ops_val (yld_loadS 1 Tryz.isAgg38 Tryz.sizeOf38 rfl rfl rfl) rfl ?_
          refine ops_callB (isBare_c _ (.mk kr nr lr hr ar cr pr) (Nat.le_refl _) hok.right) rfl (.refl _) (fun v _ h => ⟨h.1.2.1, trivial⟩) rfl fun r41 hr41 => ?_
          refine ops_nil (fin_next rfl ?_)
          cases r41
          ·
           try dsimp only [Con.kind, Con.parts, Con.name, Con.lo, Con.hi, Con.cap, Con.ad] at hr41
           refine run_cond_f rfl (run_skip (fin_next rfl (run_seq (run_region (ops_val (yld_assign rfl) rfl (ops_nil (fin_next rfl ?_)))))))
           refine run_ret ?_
           exact ret1 Tryz.results20 () (get_int rfl (by unfold Ax.check; simp only [hus]; simp_all)) (.refl _) (fun _ _ _ => trivial)
          ·
           try dsimp only [Con.kind, Con.parts, Con.name, Con.lo, Con.hi, Con.cap, Con.ad] at hr41
           refine run_cond_t rfl (run_seq (run_region (ops_val (yld_assign rfl) rfl (ops_nil (fin_next rfl (run_ret ?_))))))
           exact ret1 Tryz.results20 () (get_int rfl (by unfold Ax.check; simp only [hus]; simp_all)) (.refl _) (fun _ _ _ => trivial)
        ·
         replace hr37 := eq_of_beq hr37
         try dsimp only [Con.kind, Con.parts, Con.name, Con.lo, Con.hi, Con.cap, Con.ad] at hr37
         refine run_cond_t rfl (run_skip (fin_next rfl (run_cond_t rfl (run_seq (run_region (ops_val (yld_field Tryz.runUnderlying41 rfl rfl rfl Tryz.sizeOf38) rfl ?_))))))
         refine ops_val (yld_loadS 1 Tryz.isAgg38 Tryz.sizeOf38 rfl rfl rfl) rfl ?_
         refine ops_callB (isBare_c _ (.mk kr nr lr hr ar cr pr) (Nat.le_refl _) hok.right) rfl (.refl _) (fun v _ h => ⟨h.1.2.1, trivial⟩) rfl fun r42 hr42 => ?_
         refine ops_nil (fin_next rfl ?_)
         cases r42
         ·
          try dsimp only [Con.kind, Con.parts, Con.name, Con.lo, Con.hi, Con.cap, Con.ad] at hr42
          refine run_cond_f rfl (run_skip (fin_next rfl (run_seq (run_region (ops_val (yld_assign rfl) rfl (ops_nil (fin_next rfl ?_)))))))
          refine run_ret ?_
          exact ret1 Tryz.results20 () (get_int rfl (by unfold Ax.check; simp only [hus]; simp_all)) (.refl _) (fun _ _ _ => trivial)
         ·
          try dsimp only [Con.kind, Con.parts, Con.name, Con.lo, Con.hi, Con.cap, Con.ad] at hr42
          refine run_cond_t rfl (run_seq (run_region (ops_val (yld_assign rfl) rfl (ops_nil (fin_next rfl (run_ret ?_))))))
          exact ret1 Tryz.results20 () (get_int rfl (by unfold Ax.check; simp only [hus]; simp_all)) (.refl _) (fun _ _ _ => trivial)
       ·
        replace hr36 := eq_of_beq hr36
        try dsimp only [Con.kind, Con.parts, Con.name, Con.lo, Con.hi, Con.cap, Con.ad] at hr36
        refine run_cond_t rfl (run_seq (run_region (ops_val (yld_field Tryz.runUnderlying41 rfl rfl rfl Tryz.sizeOf38) rfl ?_)))
        refine ops_val (yld_loadS 1 Tryz.isAgg38 Tryz.sizeOf38 rfl rfl rfl) rfl ?_
        refine ops_callB (isBare_c _ (.mk kl nl ll hl al cl pl) (Nat.le_refl _) hok.left) rfl (.refl _) (fun v _ h => ⟨h.1.1, trivial⟩) rfl fun r43 hr43 => ?_
        refine ops_val (yld_move rfl) rfl ?_
        refine ops_cut 4 ((Con.bare (.mk kl nl ll hl al cl pl)) || (Con.bare (.mk kr nr lr hr ar cr pr))) (fun r => [(0, .agg #[.int .i64 k, .bool op, .int .i64 kl, str nl, .int .i64 ll, .int .i64 hl, .slice al pl.length cl, .int .i64 kr, str nr, .int .i64 lr, .int .i64 hr, .slice ar pr.length cr, .slice ad rs.length cap, str ro, str a, str b]), (1, .pointer (some ⟨b1, 0, none⟩)), (2, .int .i64 0), (6, .agg #[.int .i64 k, .bool op, .int .i64 kl, str nl, .int .i64 ll, .int .i64 hl, .slice al pl.length cl, .int .i64 kr, str nr, .int .i64 lr, .int .i64 hr, .slice ar pr.length cr, .slice ad rs.length cap, str ro, str a, str b]), (7, .bool true), (8, .bool false), (9, .pointer (some ⟨b1, 0, none⟩)), (10, .int .i64 k), (11, .pointer (some (rad (some ⟨0, 0, none⟩) (k.toNat * 7)))), (12, .agg #[.bool true, .bool true, .bool uo, .bool ua, .bool ub, .int .i64 um, .int .i64 un]), (3, .pointer (some ⟨b2, 0, none⟩)), (13, .agg #[.int .i64 k, .bool op, .int .i64 kl, str nl, .int .i64 ll, .int .i64 hl, .slice al pl.length cl, .int .i64 kr, str nr, .int .i64 lr, .int .i64 hr, .slice ar pr.length cr, .slice ad rs.length cap, str ro, str a, str b]), (14, .agg #[.bool true, .bool true, .bool uo, .bool ua, .bool ub, .int .i64 um, .int .i64 un]), (15, .bool true), (16, .bool false), (17, .pointer (some ⟨b2, 0, none⟩)), (18, .bool true), (19, .pointer (some ⟨b1, 2, none⟩)), (20, .agg #[.int .i64 kl, str nl, .int .i64 ll, .int .i64 hl, .slice al pl.length cl]), (21, .int .i64 (Con.check (.mk kl nl ll hl al cl pl))), (4, .int .i64 (Con.check (.mk kl nl ll hl al cl pl))), (22, .int .i64 (Con.check (.mk kl nl ll hl al cl pl))), (23, .bool false), (25, .pointer (some ⟨b2, 1, none⟩)), (26, .bool true), (27, .pointer (some ⟨b1, 7, none⟩)), (28, .agg #[.int .i64 kr, str nr, .int .i64 lr, .int .i64 hr, .slice ar pr.length cr]), (29, .int .i64 (Con.check (.mk kr nr lr hr ar cr pr))), (5, .int .i64 (Con.check (.mk kr nr lr hr ar cr pr))), (30, .int .i64 (Con.check (.mk kr nr lr hr ar cr pr))), (31, .bool false), (33, .pointer (some ⟨b1, 0, none⟩)), (34, .int .i64 k), (36, .bool true), (35, .bool true), (44, .bool r)]) ?_ fun r44 hr44 => ?_
        ·
         cases r43
         ·
          have qr44 := hr43
          try dsimp only [Con.kind, Con.parts, Con.name, Con.lo, Con.hi, Con.cap, Con.ad] at hr43
          refine ops_yes rfl rfl (ops_val (yld_field Tryz.runUnderlying41 rfl rfl rfl Tryz.sizeOf38) rfl ?_)
          refine ops_yes rfl rfl (ops_val (yld_loadS 1 Tryz.isAgg38 Tryz.sizeOf38 rfl rfl rfl) rfl ?_)
          refine ops_yes rfl rfl (ops_callB (isBare_c _ (.mk kr nr lr hr ar cr pr) (Nat.le_refl _) hok.right) rfl (.refl _) (fun v _ h => ⟨h.1.2.1, trivial⟩) rfl fun r45 hr45 => ?_)
          refine ops_val (yld_pick_f rfl rfl) rfl ?_
          refine ops_nil (fin_inv rfl ?_)
          exact met ⟨rfl, rfl, rfl, rfl, rfl, rfl, rfl, rfl, rfl, rfl, rfl, rfl, rfl, rfl, rfl, rfl, rfl, rfl, rfl, rfl, rfl, rfl, rfl, rfl, rfl, rfl, rfl, rfl, rfl, rfl, rfl, rfl, rfl, rfl, rfl, (get_bool rfl (jof qr44 hr45)), trivial⟩
         ·
          have qr44 := hr43
          try dsimp only [Con.kind, Con.parts, Con.name, Con.lo, Con.hi, Con.cap, Con.ad] at hr43
          refine ops_no rfl rfl rfl rfl (ops_no rfl rfl rfl rfl (ops_no rfl rfl rfl rfl (ops_val (yld_pick_t rfl rfl) rfl ?_)))
          refine ops_nil (fin_inv rfl ?_)
          exact met ⟨rfl, rfl, rfl, rfl, rfl, rfl, rfl, rfl, rfl, rfl, rfl, rfl, rfl, rfl, rfl, rfl, rfl, rfl, rfl, rfl, rfl, rfl, rfl, rfl, rfl, rfl, rfl, rfl, rfl, rfl, rfl, rfl, rfl, rfl, rfl, (get_bool rfl (jot qr44)), trivial⟩
        ·
         refine ops_nil (fin_next rfl ?_)
         cases r44
         ·
          simp at hr44
          try dsimp only [Con.kind, Con.parts, Con.name, Con.lo, Con.hi, Con.cap, Con.ad] at hr44
          refine run_cond_f rfl (run_skip (fin_next rfl (run_seq (run_region (ops_val (yld_assign rfl) rfl (ops_nil (fin_next rfl ?_)))))))
          refine run_ret ?_
          exact ret1 Tryz.results20 () (get_int rfl (by unfold Ax.check; simp only [hus]; simp_all)) (.refl _) (fun _ _ _ => trivial)
         ·
          simp at hr44
          try dsimp only [Con.kind, Con.parts, Con.name, Con.lo, Con.hi, Con.cap, Con.ad] at hr44
          refine run_cond_t rfl (run_seq (run_region (ops_val (yld_assign rfl) rfl (ops_nil (fin_next rfl (run_ret ?_))))))
          exact ret1 Tryz.results20 () (get_int rfl (by unfold Ax.check; simp only [hus]; simp_all)) (.refl _) (fun _ _ _ => trivial)
      ·
       replace hr35 := ne_of_bne hr35
       try dsimp only [Con.kind, Con.parts, Con.name, Con.lo, Con.hi, Con.cap, Con.ad] at hr35
       refine run_cond_t rfl (run_seq (run_region (ops_val (yld_move rfl) rfl (ops_val (yld_assign rfl) rfl (ops_nil (fin_next rfl (run_ret ?_)))))))
       exact ret1 Tryz.results20 () (get_int rfl (by unfold Ax.check; simp only [hus]; simp_all)) (.refl _) (fun _ _ _ => trivial)
    ·
     replace hr24 := ne_of_bne hr24
     try dsimp only [Con.kind, Con.parts, Con.name, Con.lo, Con.hi, Con.cap, Con.ad] at hr24
     refine run_cond_t rfl (run_seq (run_region (ops_val (yld_move rfl) rfl (ops_val (yld_assign rfl) rfl (ops_nil (fin_next rfl (run_ret ?_)))))))
     exact ret1 Tryz.results20 () (get_int rfl (by unfold Ax.check; simp only [hus]; simp_all)) (.refl _) (fun _ _ _ => trivial)

end Go.Proofs.YtoafjmalfclpoaaGreatDoor

/-
  My own contracts.
-/
namespace Go.Proofs.YtoafjmalfclpoaaGreatDoor
open Go Go.Sx Go.Proofs
set_option linter.unusedVariables false
attribute [local irreducible] Code.wp wpList wpAnyH

open Go.Vs
def prE : Array MapEntry := #[⟨.int .i64 1, .func (.func 98) #[] #[], 0⟩, ⟨.int .i64 2, .func (.func 99) #[] #[], 1⟩, ⟨.int .i64 3, .func (.func 100) #[] #[], 2⟩, ⟨.int .i64 4, .func (.func 101) #[] #[], 3⟩, ⟨.int .i64 5, .func (.func 102) #[] #[], 4⟩, ⟨.int .i64 6, .func (.func 103) #[] #[], 5⟩, ⟨.int .i64 7, .func (.func 104) #[] #[], 6⟩]
/-- the printers of concepts, as newPrinter lays them -/
def prF (m : Nat) : Fct := objF m (.map prE 7)
def prV (m n : Nat) : Value := .agg #[.map (some m), .map (some n)]
theorem elt39 : Elt Tryz.prog 39 9 1 16 := eltOf Tryz.underlying39 (z := .string ⟨#[]⟩) (by kernel_rfl) rfl (by decide)

theorem join_c {b n cap : Nat} (xs : List Str) (sep : Str) (hn : xs.length = n) {arr : Array Value} {T : TypeId} {fz : Nat × Nat} (hc : ∀ (j : Nat) (x : Str), xs[j]? = some x → arr[j]? = some (str x)) (hcap : xs.length ≤ cap) (hN : xs.length ≤ 1000000) (hlen : (Lib.join xs sep).length ≤ 140737488355328) :
    Tri Tryz.prog 143 #[.slice (some ⟨b, 0, none⟩) n cap, str sep] [(b, .cells arr T fz)] [] (fun _ : Unit => str (Lib.join xs sep)) (fun _ => [(b, .cells arr T fz)]) (fun _ => []) := by
  subst hn
  refine tri_of_calls (callable Tryz.func143 rfl rfl) fun v h1 _ => ?_
  have hb := (h1.own _ List.mem_cons_self).1
  have e : (xs.map fun x => (⟨x.toArray⟩ : ByteArray)).map (·.data.toList) = xs := by simp [List.map_map, Function.comp_def]
  have := Tryz.strings_Join b 0 cap (xs.map fun x => ⟨x.toArray⟩) ⟨sep.toArray⟩ v.w (fun j x hj => by
    simp only [List.getElem?_map, Option.map_eq_some_iff] at hj
    obtain ⟨y, hy, rfl⟩ := hj
    simp only [World.cell?, hb, Nat.zero_add]
    exact hc j y hy) (Array.getElem?_eq_some_iff.1 hb).1 (by simp; omega) (by simpa using hcap) (by rw [e]; exact hlen)
  rw [e, List.length_map] at this
  exact this

theorem itoa_c (n : Int) (h0 : -9223372036854775808 ≤ n) (h1 : n ≤ 9223372036854775807) : Tri Tryz.prog 145 #[.int .i64 n] [] [tabs] (fun _ : Unit => str (Lib.itoa n)) (fun _ => []) (fun _ => []) :=
  tri_of_calls (callable Tryz.func145 rfl rfl) fun v _ h => (Tryz.strconv_Itoa n h0 h1 v.w (powAt_tab h.1.2.2.2)).mono (by
    rintro e w' ⟨rfl, k, os, rfl⟩
    exact ⟨rfl, below_grow _ _ _⟩)

theorem words_c {b n : Nat} (xs : List Str) (hn : xs.length = n) {arr : Array Value} {T : TypeId} {fz : Nat × Nat} (hc : ∀ (j : Nat) (x : Str), xs[j]? = some x → arr[j]? = some (str x)) (hN : xs.length ≤ 1000000) (hlen : (Lib.join xs [32]).length ≤ 140737488355328) :
    Tri Tryz.prog 144 #[.slice (some ⟨b, 0, none⟩) n n] [(b, .cells arr T fz)] [] (fun _ : Unit => str (Lib.join xs [32])) (fun _ => [(b, .cells arr T fz)]) (fun _ => []) := by
  refine tri_of_body Tryz.func144 rfl rfl Tryz.ntmps144 rfl fun v0 => ?_
  refine run_seq (run_region (ops_val (yld_assign rfl) rfl (ops_nil (fin_next rfl (run_seq (run_region (ops_val (yld_move rfl) rfl ?_)))))))
  refine ops_call (join_c xs [32] hn hc (Nat.le_of_eq hn) hN hlen) rfl (.refl _) (fun _ _ _ => trivial) rfl fun _ => ?_
  refine ops_val (yld_assign rfl) rfl (ops_nil (fin_next rfl (run_ret ?_)))
  exact ret1 Tryz.results144 () rfl (F := []) (.refl _) (fun _ _ _ => trivial)

theorem pr_top (c : Con) (m n : Nat) (hk : c.kind = 1) : Tri Tryz.prog 98 #[prV m n, c.val] [] [c.memF, prF m, tabs] (fun _ : Unit => str c.text) (fun _ => []) (fun _ => []) := by
  obtain ⟨k, nm, lo, hi, ad, cap, ps⟩ := c
  simp only [Con.kind] at hk
  refine tri_of_body Tryz.func98 rfl rfl Tryz.ntmps98 rfl fun v0 => ?_
  refine run_seq (run_region (ops_box rfl rfl fun b1 => ?_))
  refine ops_box rfl rfl fun b2 => ?_
  refine ops_val (yld_assign rfl) rfl (ops_nil (fin_next rfl (run_seq (run_region (ops_val (yld_assign rfl) rfl (ops_nil (fin_next rfl ?_)))))))
  refine run_ret ?_
  exact ret1 Tryz.results98 () (get_str rfl (by rw [Con.text_eq]; simp [Con.kind, Con.name, hk])) (.refl _) (fun _ _ _ => trivial)

theorem pr_bottom (c : Con) (m n : Nat) (hk : c.kind = 2) : Tri Tryz.prog 99 #[prV m n, c.val] [] [c.memF, prF m, tabs] (fun _ : Unit => str c.text) (fun _ => []) (fun _ => []) := by
  obtain ⟨k, nm, lo, hi, ad, cap, ps⟩ := c
  simp only [Con.kind] at hk
  refine tri_of_body Tryz.func99 rfl rfl Tryz.ntmps99 rfl fun v0 => ?_
  refine run_seq (run_region (ops_box rfl rfl fun b1 => ?_))
  refine ops_box rfl rfl fun b2 => ?_
  refine ops_val (yld_assign rfl) rfl (ops_nil (fin_next rfl (run_seq (run_region (ops_val (yld_assign rfl) rfl (ops_nil (fin_next rfl ?_)))))))
  refine run_ret ?_
  exact ret1 Tryz.results99 () (get_str rfl (by rw [Con.text_eq]; simp [Con.kind, Con.name, hk])) (.refl _) (fun _ _ _ => trivial)

theorem pr_named (c : Con) (m n : Nat) (hk : c.kind = 3) : Tri Tryz.prog 100 #[prV m n, c.val] [] [c.memF, prF m, tabs] (fun _ : Unit => str c.text) (fun _ => []) (fun _ => []) := by
  obtain ⟨k, nm, lo, hi, ad, cap, ps⟩ := c
  simp only [Con.kind] at hk
  refine tri_of_body Tryz.func100 rfl rfl Tryz.ntmps100 rfl fun v0 => ?_
  refine run_seq (run_region (ops_box rfl rfl fun b1 => ?_))
  refine ops_box rfl rfl fun b2 => ?_
  refine ops_val (yld_assign rfl) rfl (ops_nil (fin_next rfl (run_seq (run_region (ops_val (yld_field Tryz.runUnderlying38 rfl rfl rfl Tryz.sizeOf9) rfl ?_)))))
  refine ops_val (yld_load 0 Tryz.isAgg9 rfl rfl rfl) rfl ?_
  refine ops_val (yld_assign rfl) rfl (ops_nil (fin_next rfl (run_ret ?_)))
  exact ret1 Tryz.results100 () (get_str rfl (by rw [Con.text_eq]; simp [Con.kind, Con.name, hk])) (.refl _) (fun _ _ _ => trivial)

theorem pr_nominal (c : Con) (m n : Nat) (hk : c.kind = 4) (hl : c.name.length ≤ 24) : Tri Tryz.prog 101 #[prV m n, c.val] [] [c.memF, prF m, tabs] (fun _ : Unit => str c.text) (fun _ => []) (fun _ => []) := by
  obtain ⟨k, nm, lo, hi, ad, cap, ps⟩ := c
  simp only [Con.kind] at hk
  refine tri_of_body Tryz.func101 rfl rfl Tryz.ntmps101 rfl fun v0 => ?_
  simp only [Con.name] at hl
  refine run_seq (run_region (ops_box rfl rfl fun b1 => ?_))
  refine ops_box rfl rfl fun b2 => ?_
  refine ops_val (yld_assign rfl) rfl (ops_nil (fin_next rfl (run_seq (run_region (ops_val (yld_field Tryz.runUnderlying38 rfl rfl rfl Tryz.sizeOf9) rfl ?_)))))
  refine ops_val (yld_load 0 Tryz.isAgg9 rfl rfl rfl) rfl ?_
  refine ops_val (yld_cat rfl rfl (by simp [Con.name]; omega)) rfl ?_
  refine ops_val (yld_cat rfl rfl (by simp [Con.name]; omega)) rfl ?_
  refine ops_val (yld_assign rfl) rfl (ops_nil (fin_next rfl (run_ret ?_)))
  exact ret1 Tryz.results101 () (get_str rfl (by rw [Con.text_eq]; simp [Con.kind, Con.name, hk])) (.refl _) (fun _ _ _ => trivial)

theorem pr_operand (c : Con) (m n : Nat) (hl : c.text.length ≤ 100000) (hT : Tri Tryz.prog 60 #[prV m n, c.val] [] [c.memF, prF m, tabs] (fun _ : Unit => str c.text) (fun _ => []) (fun _ => [])) : Tri Tryz.prog 142 #[prV m n, c.val] [] [c.memF, prF m, tabs] (fun _ : Unit => str c.operand) (fun _ => []) (fun _ => []) := by
  obtain ⟨k, nm, lo, hi, ad, cap, ps⟩ := c
  refine tri_of_body Tryz.func142 rfl rfl Tryz.ntmps142 rfl fun v0 => ?_
  refine run_seq (run_region (ops_box rfl rfl fun b1 => ?_))
  refine ops_box rfl rfl fun b2 => ?_
  refine ops_val (yld_assign rfl) rfl (ops_nil (fin_next rfl (run_seq (run_seq (run_region (ops_val (yld_field Tryz.runUnderlying38 rfl rfl rfl Tryz.sizeOf3) rfl ?_))))))
  refine ops_val (yld_load 0 Tryz.isAgg3 rfl rfl rfl) rfl ?_
  refine ops_valB (yld_eql rfl rfl) rfl fun r1 hr1 => ?_
  refine ops_nil (fin_next rfl ?_)
  cases r1
  · skip
    replace hr1 := ne_of_beq_false hr1
    try dsimp only [Con.kind, Con.parts, Con.name, Con.lo, Con.hi, Con.cap, Con.ad] at hr1
    refine run_cond_f rfl (run_skip (fin_next rfl (run_seq (run_region (ops_val (yld_loadS 1 Tryz.isAgg94 Tryz.sizeOf94 rfl rfl rfl) rfl ?_)))))
    refine ops_val (yld_loadS 0 Tryz.isAgg38 Tryz.sizeOf38 rfl rfl rfl) rfl ?_
    refine ops_call (hT) rfl (.refl _) (fun v _ h => h) rfl fun _ => ?_
    refine ops_val (yld_assign rfl) rfl (ops_nil (fin_next rfl (run_ret ?_)))
    exact ret1 Tryz.results142 () (get_str rfl (by unfold Con.operand; first | exact (if_pos (by assumption)).symm | exact (if_neg (by assumption)).symm)) (.refl _) (fun _ _ _ => trivial)
  · skip
    replace hr1 := eq_of_beq hr1
    try dsimp only [Con.kind, Con.parts, Con.name, Con.lo, Con.hi, Con.cap, Con.ad] at hr1
    refine run_cond_t rfl (run_seq (run_region (ops_val (yld_loadS 1 Tryz.isAgg94 Tryz.sizeOf94 rfl rfl rfl) rfl ?_)))
    refine ops_val (yld_loadS 0 Tryz.isAgg38 Tryz.sizeOf38 rfl rfl rfl) rfl ?_
    refine ops_call (hT) rfl (.refl _) (fun v _ h => h) rfl fun _ => ?_
    refine ops_val (yld_cat rfl rfl (by simp only [List.length_append, List.length_cons, List.length_nil]; omega)) rfl ?_
    refine ops_val (yld_cat rfl rfl (by simp only [List.length_append, List.length_cons, List.length_nil]; omega)) rfl ?_
    refine ops_val (yld_assign rfl) rfl (ops_nil (fin_next rfl (run_ret ?_)))
    exact ret1 Tryz.results142 () (get_str rfl (by unfold Con.operand; first | exact (if_pos (by assumption)).symm | exact (if_neg (by assumption)).symm)) (.refl _) (fun _ _ _ => trivial)

theorem pr_text1 (c : Con) (m n : Nat) {g i : Nat} (hf : Finds Tryz.prog 3 (.int .i64 c.kind) prE.toList (some (i, .func (.func g) #[] #[]))) (hT : Tri Tryz.prog g #[prV m n, c.val] [] [c.memF, prF m, tabs] (fun _ : Unit => str c.text) (fun _ => []) (fun _ => [])) : Tri Tryz.prog 60 #[prV m n, c.val] [] [c.memF, prF m, tabs] (fun _ : Unit => str c.text) (fun _ => []) (fun _ => []) := by
  obtain ⟨k, nm, lo, hi, ad, cap, ps⟩ := c
  refine tri_of_body Tryz.func60 rfl rfl Tryz.ntmps60 rfl fun v0 => ?_
  refine run_seq (run_region (ops_box rfl rfl fun b1 => ?_))
  refine ops_box rfl rfl fun b2 => ?_
  refine ops_val (yld_assign rfl) rfl (ops_nil (fin_next rfl (run_seq (run_region (ops_val (yld_field Tryz.runUnderlying94 rfl rfl rfl Tryz.sizeOf91) rfl ?_)))))
  refine ops_val (yld_load 1 Tryz.isAgg91 rfl rfl rfl) rfl ?_
  refine ops_val (yld_field Tryz.runUnderlying38 rfl rfl rfl Tryz.sizeOf3) rfl ?_
  refine ops_val (yld_load 0 Tryz.isAgg3 rfl rfl rfl) rfl ?_
  refine ops_val (yld_lookup Tryz.runUnderlying91 rfl rfl (fun v _ h => h.2.1.2) (keyOk_int Tryz.underlying3) hf) rfl ?_
  refine ops_val (yld_loadS 1 Tryz.isAgg94 Tryz.sizeOf94 rfl rfl rfl) rfl ?_
  refine ops_val (yld_loadS 0 Tryz.isAgg38 Tryz.sizeOf38 rfl rfl rfl) rfl ?_
  refine ops_calld (hT) rfl rfl (.refl _) (fun v _ h => by exact h) rfl fun _ => ?_
  refine ops_val (yld_assign rfl) rfl (ops_nil (fin_next rfl (run_ret ?_)))
  exact ret1 Tryz.results60 () rfl (.refl _) (fun _ _ _ => trivial)

theorem strt94 : Strt Tryz.prog 94 [(0, 1), (1, 1)] [.map none, .map none] := ⟨_, Tryz.zeroValue94, Tryz.runUnderlying94, fun w => by simp [Tryz.sizeOf91, Tryz.sizeOf92]⟩

theorem newPrinter_c : Tri Tryz.prog 59 #[] [] [] (fun q : Nat × Nat => prV q.1 q.2) (fun _ => []) (fun q => [prF q.1]) := by
  refine tri_of_body Tryz.func59 rfl rfl Tryz.ntmps59 rfl fun v0 => ?_
  refine run_seq (run_region (ops_alloc Tryz.zeroValue94 rfl fun b1 => ?_))
  refine ops_nil (fin_next rfl (run_seq (run_region (ops_mkmap rfl fun b2 => ?_))))
  refine ops_insert 0 (.inl rfl) Tryz.runUnderlying91 rfl rfl rfl rfl (keyOk_int Tryz.underlying3) (finds_now Tryz.underlying3 rfl) ?_
  refine ops_insert 0 (.inl rfl) Tryz.runUnderlying91 rfl rfl rfl rfl (keyOk_int Tryz.underlying3) (finds_now Tryz.underlying3 rfl) ?_
  refine ops_insert 0 (.inl rfl) Tryz.runUnderlying91 rfl rfl rfl rfl (keyOk_int Tryz.underlying3) (finds_now Tryz.underlying3 rfl) ?_
  refine ops_insert 0 (.inl rfl) Tryz.runUnderlying91 rfl rfl rfl rfl (keyOk_int Tryz.underlying3) (finds_now Tryz.underlying3 rfl) ?_
  refine ops_insert 0 (.inl rfl) Tryz.runUnderlying91 rfl rfl rfl rfl (keyOk_int Tryz.underlying3) (finds_now Tryz.underlying3 rfl) ?_
  refine ops_insert 0 (.inl rfl) Tryz.runUnderlying91 rfl rfl rfl rfl (keyOk_int Tryz.underlying3) (finds_now Tryz.underlying3 rfl) ?_
  refine ops_insert 0 (.inl rfl) Tryz.runUnderlying91 rfl rfl rfl rfl (keyOk_int Tryz.underlying3) (finds_now Tryz.underlying3 rfl) ?_
  refine ops_val (yld_move rfl) rfl (ops_mkmap rfl fun b3 => ?_)
  refine ops_insert 0 (.inl rfl) Tryz.runUnderlying92 rfl rfl rfl rfl (keyOk_int Tryz.underlying3) (finds_now Tryz.underlying3 rfl) ?_
  refine ops_insert 0 (.inl rfl) Tryz.runUnderlying92 rfl rfl rfl rfl (keyOk_int Tryz.underlying3) (finds_now Tryz.underlying3 rfl) ?_
  refine ops_insert 0 (.inl rfl) Tryz.runUnderlying92 rfl rfl rfl rfl (keyOk_int Tryz.underlying3) (finds_now Tryz.underlying3 rfl) ?_
  refine ops_insert 0 (.inl rfl) Tryz.runUnderlying92 rfl rfl rfl rfl (keyOk_int Tryz.underlying3) (finds_now Tryz.underlying3 rfl) ?_
  refine ops_insert 0 (.inl rfl) Tryz.runUnderlying92 rfl rfl rfl rfl (keyOk_int Tryz.underlying3) (finds_now Tryz.underlying3 rfl) ?_
  refine ops_insert 0 (.inl rfl) Tryz.runUnderlying92 rfl rfl rfl rfl (keyOk_int Tryz.underlying3) (finds_now Tryz.underlying3 rfl) ?_
  refine ops_insert 0 (.inl rfl) Tryz.runUnderlying92 rfl rfl rfl rfl (keyOk_int Tryz.underlying3) (finds_now Tryz.underlying3 rfl) ?_
  refine ops_insert 0 (.inl rfl) Tryz.runUnderlying92 rfl rfl rfl rfl (keyOk_int Tryz.underlying3) (finds_now Tryz.underlying3 rfl) ?_
  refine ops_insert 0 (.inl rfl) Tryz.runUnderlying92 rfl rfl rfl rfl (keyOk_int Tryz.underlying3) (finds_now Tryz.underlying3 rfl) ?_
  refine ops_val (yld_move rfl) rfl (ops_val (yld_struct strt94 rfl rfl) rfl ?_)
  refine ops_store 2 Tryz.sizeOf94 rfl rfl rfl rfl rfl rfl ?_
  refine ops_nil (fin_next rfl (run_ret (ok_giveO 1 rfl ?_)))
  exact retR (b2, b3) (fun a v h1 h2 => res_cellS (us := [_, _]) 1 Tryz.results59 Tryz.isAgg94 Tryz.sizeOf94 rfl rfl rfl a v h1 h2) (.refl _) (fun v _ h => ⟨h.1, trivial⟩)

theorem pr_and (c : Con) (m n : Nat) (hk0 : c.kind = 5) (hps : 2 ≤ c.parts.length ∧ c.parts.length ≤ 8) (hl : (Lib.join (c.parts.map Con.operand) [32, 97, 110, 100, 32]).length ≤ 140737488355328) (hop : ∀ p ∈ c.parts, Tri Tryz.prog 142 #[prV m n, p.val] [] [p.memF, prF m, tabs] (fun _ : Unit => str p.operand) (fun _ => []) (fun _ => [])) : Tri Tryz.prog 102 #[prV m n, c.val] [] [c.memF, prF m, tabs] (fun _ : Unit => str c.text) (fun _ => []) (fun _ => []) := by
 obtain ⟨k, nm, lo, hi, ad, cap, ps⟩ := c
 simp only [Con.kind, Con.parts] at hk0 hps hl hop
 refine tri_of_body Tryz.func102 rfl rfl Tryz.ntmps102 rfl fun v0 => ?_
 refine run_seq (run_region (ops_box rfl rfl fun b1 => ?_))
 refine ops_box rfl rfl fun b2 => ?_
 refine ops_val (yld_assign rfl) rfl (ops_nil (fin_next rfl (run_seq (run_region (ops_val (yld_assign rfl) rfl (ops_nil (fin_next rfl ?_)))))))
 refine run_seq (run_seq (run_region (ops_val (yld_field Tryz.runUnderlying38 rfl rfl rfl Tryz.sizeOf36) rfl ?_)))
 refine ops_val (yld_load 0 Tryz.isAgg36 rfl rfl rfl) rfl ?_
 refine ops_val (yld_lenS Tryz.runUnderlying36 rfl) rfl ?_
 refine ops_val (yld_move rfl) rfl (ops_nil (fin_next rfl (run_block (ok_fr [(2, .pointer (some ⟨b1, 0, none⟩)), (5, .slice none 0 0), (9, .slice ad ps.length cap), (10, .int .i64 (ps.length : Int)), (11, .int .i64 ((0 : Nat) : Int))] ⟨rfl, rfl, rfl, rfl, rfl, trivial⟩ ?_))))
 refine run_loop (ι := {q : Nat × Value × Hp // q.1 ≤ ps.length ∧ SRow 9 1 q.2.1 q.1 ((ps.take q.1).flatMap fun p => strC p.operand) q.2.2}) (fun q => [(2, .pointer (some ⟨b1, 0, none⟩)), (5, q.1.2.1), (9, .slice ad ps.length cap), (10, .int .i64 (ps.length : Int)), (11, .int .i64 (q.1.1 : Int))]) (fun q => _ :: _ :: q.1.2.2) (fun _ => _) (fun q => ps.length - q.1.1) ⟨(0, .slice none 0 0, []), by simp, SRow.nil _ _⟩ ?_
 rintro ⟨⟨i, sv, Hr⟩, hk⟩
 dsimp only at hk
 refine ok_fr [(2, .pointer (some ⟨b1, 0, none⟩)), (5, sv), (9, .slice ad ps.length cap), (10, .int .i64 (ps.length : Int)), (11, .int .i64 (i : Int))] ⟨rfl, rfl, rfl, rfl, rfl, trivial⟩ ?_
 refine run_seq (run_region (ops_valB (yld_lss rfl rfl) rfl fun r1 hr1 => ?_))
 refine ops_nil (fin_next rfl (run_seq ?_))
 cases r1
 ·
  replace hr1 := of_decide_eq_false hr1
  try dsimp only [Con.kind, Con.parts, Con.name, Con.lo, Con.hi, Con.cap, Con.ad] at hr1
  obtain rfl : i = ps.length := by omega
  obtain ⟨g, cp, cur, rfl, rfl, h3, h4, h5, h6⟩ := hk.2.some (by omega)
  rw [List.take_length] at h6
  refine run_cond_f rfl (run_exit rfl (fin_next rfl (run_seq (run_region (ops_val (yld_move rfl) rfl (ops_call (join_c (ps.map Con.operand) [32, 97, 110, 100, 32] (by simp) (take_strs (n := ps.length) (by rw [h6, List.flatMap_map])) (by simpa using h3) (by simp; omega) hl) rfl (@List.perm_append_comm _ [_, _] _) (fun _ _ _ => trivial) rfl fun _ => ?_))))))
  refine ops_val (yld_assign rfl) rfl (ops_nil (fin_next rfl (run_ret ?_)))
  exact ret1 Tryz.results102 () (get_str rfl (by rw [Con.text_eq]; simp [Con.kind, Con.parts, hk0])) (.refl _) (fun _ _ _ => trivial)
 ·
  replace hr1 := of_decide_eq_true hr1
  try dsimp only [Con.kind, Con.parts, Con.name, Con.lo, Con.hi, Con.cap, Con.ad] at hr1
  have hlt : i < ps.length := by omega
  obtain ⟨p, hp⟩ : ∃ p, ps[i]? = some p := ⟨_, List.getElem?_eq_getElem hlt⟩
  have hpm : p ∈ ps := List.mem_of_getElem? hp
  refine run_cond_t rfl (run_skip (fin_next rfl (run_seq (run_block (run_seq (run_region (ops_val (yld_indexR Tryz.runUnderlying36 Tryz.sizeOf38 rfl rfl (fun v _ h => row_adr (n := 5) Con.cells_len (by decide) (((Con.mem_iff (.mk k nm lo hi ad cap ps) v).1 h.1).1) hp) (by omega) (by first | omega | (simp only [Con.parts]; omega) | (simp [Con.parts]; done))) rfl ?_)))))))
  refine ops_val (yld_loadRS (ad := ad) (us := p.cells) Tryz.isAgg38 Tryz.sizeOf38 rfl (fun v _ h => ((Con.mem_iff (.mk k nm lo hi ad cap ps) v).1 h.1).1) (Con.cells_len _) (row_cells Con.cells_len hp)) rfl ?_
  refine ops_alloc Tryz.zeroValue38 rfl fun b3 => ?_
  refine ops_storeC 0 Tryz.sizeOf38 rfl rfl rfl rfl ?_
  refine ops_nil (fin_next rfl (run_region (ops_val (yld_move rfl) rfl (ops_val (yld_loadS 2 Tryz.isAgg94 Tryz.sizeOf94 rfl rfl rfl) rfl ?_))))
  refine ops_val (yld_loadC 0 Tryz.isAgg38 Tryz.sizeOf38 rfl rfl) rfl ?_
  refine ops_call (hop p hpm) rfl (.refl _) (fun v _ h => ⟨Con.mem_part (c := (.mk k nm lo hi ad cap ps)) h.1 hpm, h.2.1, h.2.2.1, trivial⟩) rfl fun _ => ?_
  refine ops_slit Tryz.runUnderlying39 Tryz.sizeOf9 Tryz.zeroValue9 rfl rfl rfl rfl rfl rfl fun b4 => ?_
  refine ops_append elt39 hk.2 rfl rfl (@List.perm_append_comm _ [_, _, _, _] _) rfl (own_news 0 rfl) (one_all rfl) (by simp only [maxLen]; omega) (by omega) rfl fun sv2 Hr2 hrow => ?_
  refine ok_perm (@List.perm_append_comm _ _ [_, _, _, _]) ?_
  refine ops_val (yld_assign rfl) rfl (ops_nil (fin_next rfl (run_region (ops_val (yld_arith rfl rfl rfl (wrap64 (by omega) (by omega))) rfl ?_))))
  refine ops_val (yld_move rfl) rfl (ops_nil (fin_inv rfl ?_))
  exact ok_again ⟨(i + 1, sv2, Hr2), hlt, by rw [Con.take_snoc hp, List.flatMap_append]; exact hrow⟩ (by simp; omega) ⟨rfl, rfl, rfl, rfl, rfl, trivial⟩ (F := [_, _]) (@List.perm_append_comm _ [_, _] _) (fun _ _ h => h)

theorem pr_some (c : Con) (m n : Nat) (hk0 : c.kind = 6) (hps : c.parts.length = 1) (hl : c.text.length ≤ 140737488355328) (hop : ∀ p ∈ c.parts, Tri Tryz.prog 142 #[prV m n, p.val] [] [p.memF, prF m, tabs] (fun _ : Unit => str p.operand) (fun _ => []) (fun _ => [])) : Tri Tryz.prog 103 #[prV m n, c.val] [] [c.memF, prF m, tabs] (fun _ : Unit => str c.text) (fun _ => []) (fun _ => []) := by
  obtain ⟨k, nm, lo, hi, ad, cap, ps⟩ := c
  simp only [Con.kind, Con.parts] at hk0 hps hop
  obtain ⟨p, rfl⟩ := List.length_eq_one_iff.1 hps
  have hp : [p][0]? = some p := rfl
  have hpm : p ∈ [p] := List.mem_singleton.2 rfl
  have ht : (Con.mk k nm lo hi ad cap [p]).text = Lib.join [[115, 111, 109, 101], nm, p.operand] [32] := by rw [Con.text_eq]; simp [Con.kind, Con.parts, Con.name, hk0]
  rw [ht] at hl
  refine tri_of_body Tryz.func103 rfl rfl Tryz.ntmps103 rfl fun v0 => ?_
  refine run_seq (run_region (ops_box rfl rfl fun b1 => ?_))
  refine ops_box rfl rfl fun b2 => ?_
  refine ops_val (yld_assign rfl) rfl (ops_nil (fin_next rfl (run_seq ?_)))
  refine run_draw' (by kernel_rfl) ?_
  refine any_sq 4 [0, 1, 2, 3, 4, 5, 6] (by kernel_rfl) (fun _ a b => ⟨a, b⟩) ?_
  refine sq_val rfl (yld_field Tryz.runUnderlying38 rfl rfl rfl Tryz.sizeOf9) rfl ?_
  refine sq_val rfl (yld_load 0 Tryz.isAgg9 rfl rfl rfl) rfl ?_
  refine sq_val rfl (yld_loadS 1 Tryz.isAgg94 Tryz.sizeOf94 rfl rfl rfl) rfl ?_
  refine sq_val rfl (yld_field Tryz.runUnderlying38 rfl rfl rfl Tryz.sizeOf36) rfl ?_
  refine sq_val rfl (yld_load 0 Tryz.isAgg36 rfl rfl rfl) rfl ?_
  refine sq_val rfl (yld_indexR Tryz.runUnderlying36 Tryz.sizeOf38 rfl rfl (fun v _ h => row_adr (n := 5) Con.cells_len (by decide) (((Con.mem_iff (.mk k nm lo hi ad cap [p]) v).1 h.1).1) hp) (by omega) (by first | omega | (simp only [Con.parts]; omega) | (simp [Con.parts]; done))) rfl ?_
  refine sq_val rfl (yld_loadRS (ad := ad) (us := p.cells) Tryz.isAgg38 Tryz.sizeOf38 rfl (fun v _ h => ((Con.mem_iff (.mk k nm lo hi ad cap [p]) v).1 h.1).1) (Con.cells_len _) (row_cells Con.cells_len hp)) rfl ?_
  refine sq_nil ?_
  refine any_one 7 rfl (by kernel_rfl) ?_
  refine ops_call (hop p hpm) rfl (.refl _) (fun v _ h => ⟨Con.mem_part (c := .mk k nm lo hi ad cap [p]) h.1 hpm, h.2.1, h.2.2.1, trivial⟩) rfl fun _ => ?_
  refine ops_nil (fin_inv rfl (any_next (fun _ a b => ⟨a, b⟩) ?_))
  refine any_one 8 rfl (by kernel_rfl) ?_
  refine ops_slit Tryz.runUnderlying39 Tryz.sizeOf9 Tryz.zeroValue9 rfl rfl rfl rfl rfl rfl fun b3 => ?_
  refine ops_nil (fin_inv rfl (any_next (fun _ a b => ⟨a.tail, b⟩) ?_))
  refine any_one 9 rfl (by kernel_rfl) ?_
  refine ops_call (words_c [[115, 111, 109, 101], nm, p.operand] rfl (strs_at _) (by simp) hl) rfl (.refl _) (fun _ _ _ => trivial) rfl fun _ => ?_
  refine ops_nil (fin_inv rfl (any_next (fun _ a b => ⟨a.tail, b⟩) ?_))
  refine any_sq 0 [10] (by kernel_rfl) (fun _ a b => ⟨a.tail, b⟩) ?_
  refine sq_val rfl (yld_assign rfl) rfl ?_
  refine sq_nil ?_
  refine any_done (by kernel_rfl) ?_
  refine fin_next rfl (run_ret ?_)
  exact ret1 Tryz.results103 () (get_str rfl ht.symm) (.refl _) (fun _ _ _ => trivial)

theorem pr_span (c : Con) (m n : Nat) (hk0 : c.kind = 7) (hok : c.ok) (hl : c.text.length ≤ 140737488355328) : Tri Tryz.prog 104 #[prV m n, c.val] [] [c.memF, prF m, tabs] (fun _ : Unit => str c.text) (fun _ => []) (fun _ => []) := by
  obtain ⟨k, nm, lo, hi, ad, cap, ps⟩ := c
  simp only [Con.kind] at hk0
  obtain ⟨_, _, _, l1, l2, h1, h2, _⟩ := hok
  have ht : (Con.mk k nm lo hi ad cap ps).text = Lib.join [nm, [105, 110], Lib.itoa lo, [116, 111], Lib.itoa hi] [32] := by rw [Con.text_eq]; simp [Con.kind, Con.name, Con.lo, Con.hi, hk0]
  rw [ht] at hl
  refine tri_of_body Tryz.func104 rfl rfl Tryz.ntmps104 rfl fun v0 => ?_
  refine run_seq (run_region (ops_box rfl rfl fun b1 => ?_))
  refine ops_box rfl rfl fun b2 => ?_
  refine ops_val (yld_assign rfl) rfl (ops_nil (fin_next rfl (run_seq ?_)))
  refine run_draw' (by kernel_rfl) ?_
  refine any_sq 5 [0, 1, 2, 3, 5, 6] (by kernel_rfl) (fun _ a b => ⟨a, b⟩) ?_
  refine sq_val rfl (yld_field Tryz.runUnderlying38 rfl rfl rfl Tryz.sizeOf9) rfl ?_
  refine sq_val rfl (yld_load 0 Tryz.isAgg9 rfl rfl rfl) rfl ?_
  refine sq_val rfl (yld_field Tryz.runUnderlying38 rfl rfl rfl Tryz.sizeOf3) rfl ?_
  refine sq_val rfl (yld_load 0 Tryz.isAgg3 rfl rfl rfl) rfl ?_
  refine sq_val rfl (yld_field Tryz.runUnderlying38 rfl rfl rfl Tryz.sizeOf3) rfl ?_
  refine sq_val rfl (yld_load 0 Tryz.isAgg3 rfl rfl rfl) rfl ?_
  refine sq_nil ?_
  refine any_one 4 rfl (by kernel_rfl) ?_
  refine ops_call (itoa_c _ l1 l2) rfl (.refl _) (fun v _ h => ⟨h.2.2.1, trivial⟩) rfl fun _ => ?_
  refine ops_nil (fin_inv rfl (any_next (fun _ a b => ⟨a, b⟩) ?_))
  refine any_one 7 rfl (by kernel_rfl) ?_
  refine ops_call (itoa_c _ h1 h2) rfl (.refl _) (fun v _ h => ⟨h.2.2.1, trivial⟩) rfl fun _ => ?_
  refine ops_nil (fin_inv rfl (any_next (fun _ a b => ⟨a, b⟩) ?_))
  refine any_one 8 rfl (by kernel_rfl) ?_
  refine ops_slit Tryz.runUnderlying39 Tryz.sizeOf9 Tryz.zeroValue9 rfl rfl rfl rfl rfl rfl fun b3 => ?_
  refine ops_nil (fin_inv rfl (any_next (fun _ a b => ⟨a.tail, b⟩) ?_))
  refine any_one 9 rfl (by kernel_rfl) ?_
  refine ops_call (words_c [nm, [105, 110], Lib.itoa lo, [116, 111], Lib.itoa hi] rfl (strs_at _) (by simp) hl) rfl (.refl _) (fun _ _ _ => trivial) rfl fun _ => ?_
  refine ops_nil (fin_inv rfl (any_next (fun _ a b => ⟨a.tail, b⟩) ?_))
  refine any_sq 0 [10] (by kernel_rfl) (fun _ a b => ⟨a.tail, b⟩) ?_
  refine sq_val rfl (yld_assign rfl) rfl ?_
  refine sq_nil ?_
  refine any_done (by kernel_rfl) ?_
  refine fin_next rfl (run_ret ?_)
  exact ret1 Tryz.results104 () (get_str rfl ht.symm) (.refl _) (fun _ _ _ => trivial)

theorem pr_text (m n : Nat) : ∀ (d : Nat) (c : Con), c.sz ≤ d → c.sz ≤ 64 → c.ok → c.fine → Tri Tryz.prog 60 #[prV m n, c.val] [] [c.memF, prF m, tabs] (fun _ : Unit => str c.text) (fun _ => []) (fun _ => []) := by
  intro d
  induction d with
  | zero => intro c h; have := c.sz_pos; omega
  | succ d ih =>
    intro c hd h64 hok hf
    have F := Con.fields hf
    have hl := Con.text_len _ c (Nat.le_refl _) hok hf
    have hop : ∀ p ∈ c.parts, Tri Tryz.prog 142 #[prV m n, p.val] [] [p.memF, prF m, tabs] (fun _ : Unit => str p.operand) (fun _ => []) (fun _ => []) := fun p hp => by
      have hz := Con.sz_part hp
      have hl := Con.text_len _ p (Nat.le_refl _) (Con.ok_part hok hp) (Con.fine_part hf hp)
      exact pr_operand p m n (by omega) (ih p (by omega) (by omega) (Con.ok_part hok hp) (Con.fine_part hf hp))
    have h1 := F.k1
    have h7 := F.k7
    have hm := F.mo
    have he := F.le
    have hk : c.kind = 1 ∨ c.kind = 2 ∨ c.kind = 3 ∨ c.kind = 4 ∨ c.kind = 5 ∨ c.kind = 6 ∨ c.kind = 7 := by omega
    rcases hk with hk | hk | hk | hk | hk | hk | hk
    · exact pr_text1 c m n (by rw [hk]; exact finds_now Tryz.underlying3 rfl) (pr_top c m n hk)
    · exact pr_text1 c m n (by rw [hk]; exact finds_now Tryz.underlying3 rfl) (pr_bottom c m n hk)
    · exact pr_text1 c m n (by rw [hk]; exact finds_now Tryz.underlying3 rfl) (pr_named c m n hk)
    · exact pr_text1 c m n (by rw [hk]; exact finds_now Tryz.underlying3 rfl) (pr_nominal c m n hk F.nm)
    · have ht : c.text = Lib.join (c.parts.map Con.operand) [32, 97, 110, 100, 32] := by rw [Con.text_eq]; simp [hk]
      rw [hk] at hm he
      simp [nd, needL] at hm he
      exact pr_text1 c m n (by rw [hk]; exact finds_now Tryz.underlying3 rfl) (pr_and c m n hk ⟨by omega, by omega⟩ (by rw [← ht]; omega) hop)
    · rw [hk] at hm he
      simp [nd, needL] at hm he
      exact pr_text1 c m n (by rw [hk]; exact finds_now Tryz.underlying3 rfl) (pr_some c m n hk (by omega) (by omega) hop)
    · exact pr_text1 c m n (by rw [hk]; exact finds_now Tryz.underlying3 rfl) (pr_span c m n hk hok (by omega))

end Go.Proofs.YtoafjmalfclpoaaGreatDoor

/-
  My own contracts.
-/
namespace Go.Proofs.YtoafjmalfclpoaaGreatDoor
open Go Go.Sx Go.Proofs
set_option linter.unusedVariables false
attribute [local irreducible] Code.wp wpList wpAnyH

open Go.Vs
theorem prConcept_c (c : Con) (hok : c.ok) : Tri Tryz.prog 23 #[c.val] [] [c.memF, tabs] (fun _ : Unit => .tuple #[str c.textN, .int .i64 c.check]) (fun _ => []) (fun _ => []) := by
  obtain ⟨k, nm, lo, hi, ad, cap, ps⟩ := c
  refine tri_of_body Tryz.func23 rfl rfl Tryz.ntmps23 rfl fun v0 => ?_
  refine run_seq (run_region (ops_box rfl rfl fun b1 => ?_))
  refine ops_val (yld_assign rfl) rfl (ops_val (yld_assign rfl) rfl (ops_nil (fin_next rfl (run_seq (run_seq (run_region (ops_val (yld_loadS 0 Tryz.isAgg38 Tryz.sizeOf38 rfl rfl rfl) rfl ?_)))))))
  refine ops_call (checkConcept_c (.mk k nm lo hi ad cap ps) hok) rfl (.refl _) (fun v _ h => ⟨h.1, h.2.1, trivial⟩) rfl fun _ => ?_
  refine ops_val (yld_assign rfl) rfl (ops_nil (fin_next rfl (run_seq (run_region (ops_val (yld_move rfl) rfl (ops_valB (yld_neq rfl rfl) rfl fun r1 hr1 => ?_))))))
  refine ops_nil (fin_next rfl ?_)
  cases r1
  · skip
    replace hr1 := eq_of_bne hr1
    try dsimp only [Con.kind, Con.parts, Con.name, Con.lo, Con.hi, Con.cap, Con.ad] at hr1
    obtain ⟨hfine, h64⟩ := Con.check_zero hr1
    refine run_cond_f rfl (run_skip (fin_next rfl (run_seq ?_)))
    refine run_draw' (by kernel_rfl) ?_
    refine any_sq 4 [1] (by kernel_rfl) (fun _ a b => ⟨a, b⟩) ?_
    refine sq_val rfl (yld_loadS 0 Tryz.isAgg38 Tryz.sizeOf38 rfl rfl rfl) rfl ?_
    refine sq_nil ?_
    refine any_one 0 rfl (by kernel_rfl) ?_
    refine ops_call (newPrinter_c) rfl (.refl _) (fun _ _ _ => trivial) rfl fun q => ?_
    refine ops_nil (fin_inv rfl (any_next (fun _ a b => ⟨a, b.2⟩) ?_))
    refine any_one 2 rfl (by kernel_rfl) ?_
    refine ops_call (pr_text q.1 q.2 _ (.mk k nm lo hi ad cap ps) (Nat.le_refl _) h64 hok hfine) rfl (.refl _) (fun v _ h => ⟨h.2.1, h.1, h.2.2.1, trivial⟩) rfl fun _ => ?_
    refine ops_nil (fin_inv rfl (any_next (fun _ a b => ⟨a, b.2⟩) ?_))
    refine any_sq 0 [3, 4] (by kernel_rfl) (fun _ a b => ⟨a, b.2⟩) ?_
    refine sq_val rfl (yld_assign rfl) rfl ?_
    refine sq_val rfl (yld_assign rfl) rfl ?_
    refine sq_nil ?_
    refine any_done (by kernel_rfl) ?_
    refine fin_next rfl (run_ret ?_)
    exact ret2 Tryz.results23 () rfl rfl (by simp [Con.textN, *] <;> rfl) (.refl _) (fun _ _ _ => trivial)
  · skip
    replace hr1 := ne_of_bne hr1
    try dsimp only [Con.kind, Con.parts, Con.name, Con.lo, Con.hi, Con.cap, Con.ad] at hr1
    refine run_cond_t rfl (run_seq (run_region (ops_val (yld_move rfl) rfl (ops_val (yld_assign rfl) rfl (ops_val (yld_assign rfl) rfl (ops_nil (fin_next rfl ?_)))))))
    refine run_ret ?_
    exact ret2 Tryz.results23 () rfl rfl (by simp [Con.textN, *] <;> rfl) (.refl _) (fun _ _ _ => trivial)

theorem nText_c (c : Con) (hok : c.ok) : Tri Tryz.prog 89 #[c.val] [] [c.memF, tabs] (fun _ : Unit => str c.textN) (fun _ => []) (fun _ => []) := by
  obtain ⟨k, nm, lo, hi, ad, cap, ps⟩ := c
  refine tri_of_body Tryz.func89 rfl rfl Tryz.ntmps89 rfl fun v0 => ?_
  refine run_seq (run_region (ops_box rfl rfl fun b1 => ?_))
  refine ops_val (yld_assign rfl) rfl (ops_nil (fin_next rfl (run_seq (run_region (ops_val (yld_loadS 0 Tryz.isAgg38 Tryz.sizeOf38 rfl rfl rfl) rfl ?_)))))
  refine ops_call (prConcept_c (.mk k nm lo hi ad cap ps) hok) rfl (.refl _) (fun v _ h => h) rfl fun _ => ?_
  refine ops_val (yld_move rfl) rfl (ops_val (yld_extract rfl rfl) rfl ?_)
  refine ops_val (yld_extract rfl rfl) rfl ?_
  refine ops_val (yld_assign rfl) rfl (ops_val (yld_assign rfl) rfl (ops_nil (fin_next rfl (run_seq (run_region (ops_val (yld_move rfl) rfl (ops_val (yld_assign rfl) rfl ?_)))))))
  refine ops_nil (fin_next rfl (run_ret ?_))
  exact ret1 Tryz.results89 () rfl (.refl _) (fun _ _ _ => trivial)

theorem nOperand_c (c : Con) (hok : c.ok) : Tri Tryz.prog 51 #[c.val] [] [c.memF, tabs] (fun _ : Unit => str c.operandN) (fun _ => []) (fun _ => []) := by
  obtain ⟨k, nm, lo, hi, ad, cap, ps⟩ := c
  refine tri_of_body Tryz.func51 rfl rfl Tryz.ntmps51 rfl fun v0 => ?_
  refine run_seq (run_region (ops_box rfl rfl fun b1 => ?_))
  refine ops_val (yld_assign rfl) rfl (ops_nil (fin_next rfl (run_seq (run_seq (run_region (ops_val (yld_field Tryz.runUnderlying38 rfl rfl rfl Tryz.sizeOf3) rfl ?_))))))
  refine ops_val (yld_load 0 Tryz.isAgg3 rfl rfl rfl) rfl ?_
  refine ops_valB (yld_eql rfl rfl) rfl fun r1 hr1 => ?_
  refine ops_nil (fin_next rfl ?_)
  cases r1
  · skip
    replace hr1 := ne_of_beq_false hr1
    try dsimp only [Con.kind, Con.parts, Con.name, Con.lo, Con.hi, Con.cap, Con.ad] at hr1
    refine run_cond_f rfl (run_skip (fin_next rfl (run_seq (run_region (ops_val (yld_loadS 0 Tryz.isAgg38 Tryz.sizeOf38 rfl rfl rfl) rfl ?_)))))
    refine ops_call (nText_c (.mk k nm lo hi ad cap ps) hok) rfl (.refl _) (fun v _ h => h) rfl fun _ => ?_
    refine ops_val (yld_assign rfl) rfl (ops_nil (fin_next rfl (run_ret ?_)))
    exact ret1 Tryz.results51 () (get_str rfl (by unfold Con.operandN; simp only [Con.kind, Con.name] at *; simp [*])) (.refl _) (fun _ _ _ => trivial)
  · skip
    replace hr1 := eq_of_beq hr1
    try dsimp only [Con.kind, Con.parts, Con.name, Con.lo, Con.hi, Con.cap, Con.ad] at hr1
    refine run_cond_t rfl (run_seq (run_region (ops_val (yld_loadS 0 Tryz.isAgg38 Tryz.sizeOf38 rfl rfl rfl) rfl ?_)))
    refine ops_call (nText_c (.mk k nm lo hi ad cap ps) hok) rfl (.refl _) (fun v _ h => h) rfl fun _ => ?_
    refine ops_val (yld_cat rfl rfl (by have := Con.textN_len hok; simp only [List.length_append, List.length_cons, List.length_nil]; omega)) rfl ?_
    refine ops_val (yld_cat rfl rfl (by have := Con.textN_len hok; simp only [List.length_append, List.length_cons, List.length_nil]; omega)) rfl ?_
    refine ops_val (yld_assign rfl) rfl (ops_nil (fin_next rfl (run_ret ?_)))
    exact ret1 Tryz.results51 () (get_str rfl (by unfold Con.operandN; simp only [Con.kind, Con.name] at *; simp [*])) (.refl _) (fun _ _ _ => trivial)

theorem individual_c (s : Str) (hs : s.length ≤ 140737488351232) :
    Fn0 Tryz.prog 53 #[str s] (str ([123] ++ s ++ [125])) := by
  refine tri_of_body Tryz.func53 rfl rfl Tryz.ntmps53 rfl fun v0 => ?_
  refine run_seq (run_region (ops_val (yld_assign rfl) rfl (ops_nil (fin_next rfl (run_seq (run_region (ops_val (yld_move rfl) rfl ?_)))))))
  refine ops_val (yld_cat rfl rfl (by simp; omega)) rfl ?_
  refine ops_val (yld_cat rfl rfl (by simp; omega)) rfl ?_
  refine ops_val (yld_assign rfl) rfl (ops_nil (fin_next rfl (run_ret ?_)))
  exact ret1 Tryz.results53 () rfl (.refl _) (fun _ _ _ => trivial)

theorem atom_c (c : Con) (hok : c.ok) : Tri Tryz.prog 45 #[c.val] [] [c.memF, tabs] (fun _ : Unit => str c.atom) (fun _ => []) (fun _ => []) := by
 obtain ⟨k, nm, lo, hi, ad, cap, ps⟩ := c
 refine tri_of_body Tryz.func45 rfl rfl Tryz.ntmps45 rfl fun v0 => ?_
 refine run_seq (run_region (ops_box rfl rfl fun b1 => ?_))
 refine ops_val (yld_assign rfl) rfl (ops_nil (fin_next rfl (run_seq (run_seq (run_region (ops_val (yld_field Tryz.runUnderlying38 rfl rfl rfl Tryz.sizeOf3) rfl ?_))))))
 refine ops_val (yld_load 0 Tryz.isAgg3 rfl rfl rfl) rfl ?_
 refine ops_nil (fin_next rfl (run_block (run_seq (run_region (ops_valB (yld_eql rfl rfl) rfl fun r1 hr1 => ?_)))))
 refine ops_val (yld_assign rfl) rfl (ops_nil (fin_next rfl ?_))
 cases r1
 ·
  replace hr1 := ne_of_beq_false hr1
  try dsimp only [Con.kind, Con.parts, Con.name, Con.lo, Con.hi, Con.cap, Con.ad] at hr1
  refine run_cond_f rfl (run_seq (run_region (ops_valB (yld_eql rfl rfl) rfl fun r2 hr2 => ?_)))
  refine ops_val (yld_assign rfl) rfl (ops_nil (fin_next rfl ?_))
  cases r2
  ·
   replace hr2 := ne_of_beq_false hr2
   try dsimp only [Con.kind, Con.parts, Con.name, Con.lo, Con.hi, Con.cap, Con.ad] at hr2
   refine run_cond_f rfl (run_seq (run_region (ops_valB (yld_eql rfl rfl) rfl fun r3 hr3 => ?_)))
   refine ops_val (yld_assign rfl) rfl (ops_nil (fin_next rfl ?_))
   cases r3
   ·
    replace hr3 := ne_of_beq_false hr3
    try dsimp only [Con.kind, Con.parts, Con.name, Con.lo, Con.hi, Con.cap, Con.ad] at hr3
    refine run_cond_f rfl (run_seq (run_region (ops_valB (yld_eql rfl rfl) rfl fun r4 hr4 => ?_)))
    refine ops_val (yld_assign rfl) rfl (ops_nil (fin_next rfl ?_))
    cases r4
    ·
     replace hr4 := ne_of_beq_false hr4
     try dsimp only [Con.kind, Con.parts, Con.name, Con.lo, Con.hi, Con.cap, Con.ad] at hr4
     refine run_cond_f rfl (run_skip (fin_next rfl (run_seq (run_region (ops_val (yld_loadS 0 Tryz.isAgg38 Tryz.sizeOf38 rfl rfl rfl) rfl ?_)))))
     refine ops_call (nText_c (.mk k nm lo hi ad cap ps) hok) rfl (.refl _) (fun v _ h => h) rfl fun _ => ?_
     refine ops_val (yld_cat rfl rfl (by have := Con.textN_len hok; simp only [List.length_append, List.length_cons, List.length_nil]; omega)) rfl ?_
     refine ops_val (yld_cat rfl rfl (by have := Con.textN_len hok; simp only [List.length_append, List.length_cons, List.length_nil]; omega)) rfl ?_
     refine ops_val (yld_assign rfl) rfl (ops_nil (fin_next rfl (run_ret ?_)))
     exact ret1 Tryz.results45 () (get_str rfl (by unfold Con.atom; simp only [Con.kind, Con.name] at *; simp [*])) (.refl _) (fun _ _ _ => trivial)
    ·
     replace hr4 := eq_of_beq hr4
     try dsimp only [Con.kind, Con.parts, Con.name, Con.lo, Con.hi, Con.cap, Con.ad] at hr4
     refine run_cond_t rfl (run_seq (run_region (ops_val (yld_field Tryz.runUnderlying38 rfl rfl rfl Tryz.sizeOf9) rfl ?_)))
     refine ops_val (yld_load 0 Tryz.isAgg9 rfl rfl rfl) rfl ?_
     refine ops_call (individual_c nm (Con.ok_name hok)) rfl (.refl _) (fun _ _ _ => trivial) rfl fun _ => ?_
     refine ops_val (yld_assign rfl) rfl (ops_nil (fin_next rfl (run_ret ?_)))
     exact ret1 Tryz.results45 () (get_str rfl (by unfold Con.atom; simp only [Con.kind, Con.name] at *; simp [*])) (.refl _) (fun _ _ _ => trivial)
   ·
    replace hr3 := eq_of_beq hr3
    try dsimp only [Con.kind, Con.parts, Con.name, Con.lo, Con.hi, Con.cap, Con.ad] at hr3
    refine run_cond_t rfl (run_seq (run_region (ops_val (yld_field Tryz.runUnderlying38 rfl rfl rfl Tryz.sizeOf9) rfl ?_)))
    refine ops_val (yld_load 0 Tryz.isAgg9 rfl rfl rfl) rfl ?_
    refine ops_val (yld_assign rfl) rfl (ops_nil (fin_next rfl (run_ret ?_)))
    exact ret1 Tryz.results45 () (get_str rfl (by unfold Con.atom; simp only [Con.kind, Con.name] at *; simp [*])) (.refl _) (fun _ _ _ => trivial)
  ·
   replace hr2 := eq_of_beq hr2
   try dsimp only [Con.kind, Con.parts, Con.name, Con.lo, Con.hi, Con.cap, Con.ad] at hr2
   refine run_cond_t rfl (run_seq (run_region (ops_val (yld_assign rfl) rfl (ops_nil (fin_next rfl (run_ret ?_))))))
   exact ret1 Tryz.results45 () (get_str rfl (by unfold Con.atom; simp only [Con.kind, Con.name] at *; simp [*])) (.refl _) (fun _ _ _ => trivial)
 ·
  replace hr1 := eq_of_beq hr1
  try dsimp only [Con.kind, Con.parts, Con.name, Con.lo, Con.hi, Con.cap, Con.ad] at hr1
  refine run_cond_t rfl (run_seq (run_region (ops_val (yld_assign rfl) rfl (ops_nil (fin_next rfl (run_ret ?_))))))
  exact ret1 Tryz.results45 () (get_str rfl (by unfold Con.atom; simp only [Con.kind, Con.name] at *; simp [*])) (.refl _) (fun _ _ _ => trivial)

theorem nAtom_c (c : Con) (hok : c.ok) : Tri Tryz.prog 16 #[c.val] [] [c.memF, tabs] (fun _ : Unit => .tuple #[str (if c.check = 0 then c.atom else []), .int .i64 c.check]) (fun _ => []) (fun _ => []) := by
  obtain ⟨k, nm, lo, hi, ad, cap, ps⟩ := c
  refine tri_of_body Tryz.func16 rfl rfl Tryz.ntmps16 rfl fun v0 => ?_
  refine run_seq (run_region (ops_box rfl rfl fun b1 => ?_))
  refine ops_val (yld_assign rfl) rfl (ops_val (yld_assign rfl) rfl (ops_nil (fin_next rfl (run_seq (run_seq (run_region (ops_val (yld_loadS 0 Tryz.isAgg38 Tryz.sizeOf38 rfl rfl rfl) rfl ?_)))))))
  refine ops_call (checkConcept_c (.mk k nm lo hi ad cap ps) hok) rfl (.refl _) (fun v _ h => ⟨h.1, h.2.1, trivial⟩) rfl fun _ => ?_
  refine ops_val (yld_assign rfl) rfl (ops_nil (fin_next rfl (run_seq (run_region (ops_val (yld_move rfl) rfl (ops_valB (yld_neq rfl rfl) rfl fun r1 hr1 => ?_))))))
  refine ops_nil (fin_next rfl ?_)
  cases r1
  · skip
    replace hr1 := eq_of_bne hr1
    try dsimp only [Con.kind, Con.parts, Con.name, Con.lo, Con.hi, Con.cap, Con.ad] at hr1
    refine run_cond_f rfl (run_skip (fin_next rfl (run_seq (run_region (ops_val (yld_loadS 0 Tryz.isAgg38 Tryz.sizeOf38 rfl rfl rfl) rfl ?_)))))
    refine ops_call (atom_c (.mk k nm lo hi ad cap ps) hok) rfl (.refl _) (fun v _ h => h) rfl fun _ => ?_
    refine ops_val (yld_assign rfl) rfl (ops_val (yld_assign rfl) rfl (ops_nil (fin_next rfl (run_ret ?_))))
    exact ret2 Tryz.results16 () rfl rfl (by simp [*] <;> rfl) (.refl _) (fun _ _ _ => trivial)
  · skip
    replace hr1 := ne_of_bne hr1
    try dsimp only [Con.kind, Con.parts, Con.name, Con.lo, Con.hi, Con.cap, Con.ad] at hr1
    refine run_cond_t rfl (run_seq (run_region (ops_val (yld_move rfl) rfl (ops_val (yld_assign rfl) rfl (ops_val (yld_assign rfl) rfl (ops_nil (fin_next rfl ?_)))))))
    refine run_ret ?_
    exact ret2 Tryz.results16 () rfl rfl (by simp [*] <;> rfl) (.refl _) (fun _ _ _ => trivial)

end Go.Proofs.YtoafjmalfclpoaaGreatDoor

/-
  My own contracts.
-/
namespace Go.Proofs.YtoafjmalfclpoaaGreatDoor
open Go Go.Sx Go.Proofs
set_option linter.unusedVariables false
attribute [local irreducible] Code.wp wpList wpAnyH

open Go.Vs
theorem eqPc (p q : Pc) (w : World) : (Op.equalIn 10000 31 p.val q.val).run Tryz.prog w = .ok (decide (p = q)) w := by
  have h := run_equalIn_struct (P := Tryz.prog) w 9999 31 p.cells.toArray q.cells.toArray (by simp only [Program.fieldsOf, Tryz.underlying31]) Tryz.stoodInHeld31
  refine h.trans ?_
  rw [← Pc.eqb_eq]
  simp only [Program.fieldsOf, Tryz.underlying31]
  exact eqF_cons rfl Tryz.isAgg3 rfl rfl (eqI Tryz.underlying3 w) (eqF_cons rfl Tryz.isAgg9 rfl rfl (eqS Tryz.underlying9 w) (eqF_cons rfl Tryz.isAgg9 rfl rfl (eqS Tryz.underlying9 w) (eqF_cons rfl Tryz.isAgg9 rfl rfl (eqS Tryz.underlying9 w) (eqF_cons rfl Tryz.isAgg9 rfl rfl (eqS Tryz.underlying9 w) (eqF_cons rfl Tryz.isAgg9 rfl rfl (eqS Tryz.underlying9 w) (eqF_cons rfl Tryz.isAgg9 rfl rfl (eqS Tryz.underlying9 w) (eqF_cons rfl Tryz.isAgg3 rfl rfl (eqI Tryz.underlying3 w) (eqF_cons rfl Tryz.isAgg3 rfl rfl (eqI Tryz.underlying3 w) (eqF_cons rfl Tryz.isAgg3 rfl rfl (eqI Tryz.underlying3 w) (eqF_nil w))))))))))

theorem eqFc (p q : Fc) (w : World) : (Op.equalIn 10000 50 p.val q.val).run Tryz.prog w = .ok (decide (p = q)) w := by
  have h := run_equalIn_struct (P := Tryz.prog) w 9999 50 p.cells.toArray q.cells.toArray (by simp only [Program.fieldsOf, Tryz.underlying50]) Tryz.stoodInHeld50
  refine h.trans ?_
  rw [← Fc.eqb_eq]
  simp only [Program.fieldsOf, Tryz.underlying50]
  exact eqF_cons rfl Tryz.isAgg3 rfl rfl (eqI Tryz.underlying3 w) (eqF_cons rfl Tryz.isAgg9 rfl rfl (eqS Tryz.underlying9 w) (eqF_cons rfl Tryz.isAgg9 rfl rfl (eqS Tryz.underlying9 w) (eqF_cons rfl Tryz.isAgg9 rfl rfl (eqS Tryz.underlying9 w) (eqF_cons rfl Tryz.isAgg3 rfl rfl (eqI Tryz.underlying3 w) (eqF_cons rfl Tryz.isAgg3 rfl rfl (eqI Tryz.underlying3 w) (eqF_nil w))))))

theorem keyPc (p : Pc) : KeyOk Tryz.prog 31 p.val := fun e w => by
  have hi : ∀ (n : Int) (w : World), (Instr.checkKey e (9998 + 1) 3 (.int .i64 n)).run Tryz.prog w = .ok () w := fun n w => MapKept.run_checkKey (d := .int .i64) Tryz.underlying3 (by simp [MapKept.IsKey]) e 9998
  have hs : ∀ (n : Str) (w : World), (Instr.checkKey e (9998 + 1) 9 (str n)).run Tryz.prog w = .ok () w := fun n w => MapKept.run_checkKey (d := .string) Tryz.underlying9 (by simp [MapKept.IsKey, str]) e 9998
  refine ckF (n := 9999) Tryz.underlying31 fun f hf => ?_
  simp only [List.mem_cons, List.not_mem_nil, or_false] at hf
  rcases hf with rfl | rfl | rfl | rfl | rfl | rfl | rfl | rfl | rfl | rfl
  · exact ⟨rfl, Tryz.isAgg3, _, rfl, hi _⟩
  · exact ⟨rfl, Tryz.isAgg9, _, rfl, hs _⟩
  · exact ⟨rfl, Tryz.isAgg9, _, rfl, hs _⟩
  · exact ⟨rfl, Tryz.isAgg9, _, rfl, hs _⟩
  · exact ⟨rfl, Tryz.isAgg9, _, rfl, hs _⟩
  · exact ⟨rfl, Tryz.isAgg9, _, rfl, hs _⟩
  · exact ⟨rfl, Tryz.isAgg9, _, rfl, hs _⟩
  · exact ⟨rfl, Tryz.isAgg3, _, rfl, hi _⟩
  · exact ⟨rfl, Tryz.isAgg3, _, rfl, hi _⟩
  · exact ⟨rfl, Tryz.isAgg3, _, rfl, hi _⟩

theorem elt25 : Elt Tryz.prog 25 31 10 128 := eltOf Tryz.underlying25 (z := .agg (Pc.mk 0 [] [] [] [] [] [] 0 0 0).cells.toArray) (by kernel_rfl) rfl (by decide)

theorem strt31 : Strt Tryz.prog 31 [(0, 1), (1, 1), (2, 1), (3, 1), (4, 1), (5, 1), (6, 1), (7, 1), (8, 1), (9, 1)] [.int .i64 0, str [], str [], str [], str [], str [], str [], .int .i64 0, .int .i64 0, .int .i64 0] := ⟨_, Tryz.zeroValue31, Tryz.runUnderlying31, fun w => by simp [Tryz.sizeOf3, Tryz.sizeOf9]⟩

theorem strt50 : Strt Tryz.prog 50 [(0, 1), (1, 1), (2, 1), (3, 1), (4, 1), (5, 1)] [.int .i64 0, str [], str [], str [], .int .i64 0, .int .i64 0] := ⟨_, Tryz.zeroValue50, Tryz.runUnderlying50, fun w => by simp [Tryz.sizeOf3, Tryz.sizeOf9]⟩

end Go.Proofs.YtoafjmalfclpoaaGreatDoor

/-
  My own contracts.
-/
namespace Go.Proofs.YtoafjmalfclpoaaGreatDoor
open Go Go.Sx Go.Proofs
set_option linter.unusedVariables false
attribute [local irreducible] Code.wp wpList wpAnyH

open Go.Vs
/-- a collector's blocks -/
structure CS where
  sv : Value
  bm : Nat
  es : Array MapEntry
  clk : Nat
  Hr : Hp
def collH (kb : Nat) (frm : Int) (q : CS) : Hp := (kb, .cells #[.int .i64 frm, q.sv, .map (some q.bm)] 74 (0, 0)) :: (q.bm, .map q.es q.clk) :: q.Hr
structure CInv (l : List Pc) (q : CS) : Prop where
  row : SRow 31 10 q.sv l.length (l.flatMap Pc.cells) q.Hr
  keys : q.es.toList.map (·.key) = l.map Pc.val
  vals : ∀ x ∈ q.es.toList, x.val = .bool true
theorem CInv.push {l : List Pc} {p : Pc} {sv sv2 : Value} {bm clk : Nat} {es : Array MapEntry} {Hr Hr2 : Hp} (h : CInv l ⟨sv, bm, es, clk, Hr⟩) (hr : SRow 31 10 sv2 (l.length + 1) (l.flatMap Pc.cells ++ p.cells) Hr2) : CInv (l ++ [p]) ⟨sv2, bm, es.push ⟨p.val, .bool true, clk⟩, clk + 1, Hr2⟩ := by
  refine ⟨?_, ?_, ?_⟩
  · simpa [List.flatMap_append] using hr
  · have := h.keys
    simp only at this
    simp [this]
  · intro x hx
    simp only [Array.toList_push, List.mem_append, List.mem_singleton] at hx
    rcases hx with hx | rfl
    · exact h.vals x hx
    · rfl

theorem add_c (p : Pc) {kb bn : Nat} (frm : Int) (l : List Pc) (q : CS) (hq : CInv l q) (hlen : l.length ≤ 100000) :
  Tri Tryz.prog 52 #[.pointer (some ⟨kb, 0, none⟩), .slice (some ⟨bn, 0, none⟩) 1 1] ((bn, .cells p.cells.toArray 31 (0, 0)) :: collH kb frm q) [] (fun _ : {q' : CS // CInv (ins frm l p) q'} => .tuple #[]) (fun q' => collH kb frm q'.1) (fun _ => []) := by
 obtain ⟨k, a, b, c, r, s, t, lo, hi, f⟩ := p
 obtain ⟨sv, bm, es, clk, Hr⟩ := q
 refine tri_of_body Tryz.func52 rfl rfl Tryz.ntmps52 rfl fun v0 => ?_
 refine run_seq (run_region (ops_val (yld_move rfl) rfl (ops_val (yld_lenS Tryz.runUnderlying25 rfl) rfl ?_)))
 refine ops_val (yld_move rfl) rfl (ops_nil (fin_next rfl (run_block (ok_fr [(0, .pointer (some ⟨kb, 0, none⟩)), (6, .slice (some ⟨bn, 0, none⟩) 1 1), (7, .int .i64 1), (8, .int .i64 ((0 : Nat) : Int))] ⟨rfl, rfl, rfl, rfl, trivial⟩ ?_))))
 refine run_loop (ι := {x : Nat × CS // (x.1 = 0 ∧ x.2 = ⟨sv, bm, es, clk, Hr⟩) ∨ (x.1 = 1 ∧ CInv (ins frm l ⟨k, a, b, c, r, s, t, lo, hi, f⟩) x.2)}) (fun x => [(0, .pointer (some ⟨kb, 0, none⟩)), (6, .slice (some ⟨bn, 0, none⟩) 1 1), (7, .int .i64 1), (8, .int .i64 (x.1.1 : Int))]) (fun x => _ :: collH kb frm x.1.2) (fun _ => _) (fun x => 1 - x.1.1) ⟨(0, ⟨sv, bm, es, clk, Hr⟩), .inl ⟨rfl, rfl⟩⟩ ?_
 rintro ⟨⟨i, q1⟩, hk⟩
 dsimp only at hk
 rcases hk with ⟨rfl, rfl⟩ | ⟨rfl, hc⟩
 ·
  refine ok_fr [(0, .pointer (some ⟨kb, 0, none⟩)), (6, .slice (some ⟨bn, 0, none⟩) 1 1), (7, .int .i64 1), (8, .int .i64 0)] ⟨rfl, rfl, rfl, rfl, trivial⟩ ?_
  refine run_seq (run_region (ops_valB (yld_lss rfl rfl) rfl fun r1 hr1 => ?_))
  refine ops_nil (fin_next rfl (run_seq ?_))
  cases r1
  ·
   replace hr1 := of_decide_eq_false hr1
   try dsimp only [Con.kind, Con.parts, Con.name, Con.lo, Con.hi, Con.cap, Con.ad] at hr1
   exact absurd (by decide) hr1
  ·
   replace hr1 := of_decide_eq_true hr1
   try dsimp only [Con.kind, Con.parts, Con.name, Con.lo, Con.hi, Con.cap, Con.ad] at hr1
   refine run_cond_t rfl (run_skip (fin_next rfl (run_seq (run_block (run_seq (run_region (ops_val (yld_index Tryz.runUnderlying25 Tryz.sizeOf31 rfl rfl (by decide) (by decide)) rfl ?_)))))))
   refine ops_val (yld_loadS 0 Tryz.isAgg31 Tryz.sizeOf31 rfl rfl rfl) rfl ?_
   refine ops_alloc Tryz.zeroValue31 rfl fun b1 => ?_
   refine ops_store 0 Tryz.sizeOf31 rfl rfl rfl rfl rfl rfl ?_
   refine ops_nil (fin_next rfl (run_seq (run_region (ops_val (yld_move rfl) rfl (ops_val (yld_nilck rfl) rfl ?_)))))
   refine ops_val (yld_field Tryz.runUnderlying74 rfl rfl rfl Tryz.sizeOf3) rfl ?_
   refine ops_val (yld_load 2 Tryz.isAgg3 rfl rfl rfl) rfl ?_
   refine ops_val (yld_field Tryz.runUnderlying31 rfl rfl rfl Tryz.sizeOf3) rfl ?_
   refine ops_store 0 Tryz.sizeOf3 rfl rfl rfl rfl rfl rfl ?_
   refine ops_nil (fin_next rfl (run_seq ?_))
   by_cases hm : (⟨k, a, b, c, r, s, t, lo, hi, frm⟩ : Pc) ∈ l
   ·
    obtain ⟨j, hf⟩ := (finds_struct Tryz.underlying31 (fun p q w => eqPc p q w) (⟨k, a, b, c, r, s, t, lo, hi, frm⟩ : Pc) l es.toList hq.keys).2 hm hq.vals
    refine run_draw' (by kernel_rfl) ?_
    refine any_sq 0 [0, 1, 2, 3, 4, 5, 6] (by kernel_rfl) (fun _ a b => ⟨a, b⟩) ?_
    refine sq_val rfl (yld_move rfl) rfl ?_
    refine sq_val rfl (yld_nilck rfl) rfl ?_
    refine sq_val rfl (yld_field Tryz.runUnderlying74 rfl rfl rfl Tryz.sizeOf72) rfl ?_
    refine sq_val rfl (yld_load 2 Tryz.isAgg72 rfl rfl rfl) rfl ?_
    refine sq_val rfl (yld_loadS 0 Tryz.isAgg31 Tryz.sizeOf31 rfl rfl rfl) rfl ?_
    refine sq_val rfl (yld_lookup Tryz.runUnderlying72 rfl rfl (fun v h _ => (h.own _ (List.mem_of_getElem? (i := 3) rfl)).1) (keyPc (⟨k, a, b, c, r, s, t, lo, hi, frm⟩ : Pc)) hf) rfl ?_
    refine sq_val rfl (yld_not rfl) rfl ?_
    refine sq_nil ?_
    refine any_done (by kernel_rfl) ?_
    refine fin_next rfl (run_cond_f rfl (run_skip (fin_next rfl (run_region (ops_val (yld_arith rfl rfl rfl (wrap64 (by omega) (by omega))) rfl ?_)))))
    refine ops_val (yld_move rfl) rfl (ops_nil (fin_inv rfl ?_))
    exact ok_again ⟨(1, ⟨sv, bm, es, clk, Hr⟩), .inr ⟨rfl, by simp only [ins, if_pos hm]; exact hq⟩⟩ Nat.zero_lt_one ⟨rfl, rfl, rfl, rfl, trivial⟩ (F := [_]) (@List.perm_append_comm _ [_] _) (fun _ _ h => h)
   ·
    have hf := (finds_struct Tryz.underlying31 (fun p q w => eqPc p q w) (⟨k, a, b, c, r, s, t, lo, hi, frm⟩ : Pc) l es.toList hq.keys).1 hm
    refine run_draw' (by kernel_rfl) ?_
    refine any_sq 0 [0, 1, 2, 3, 4, 5, 6] (by kernel_rfl) (fun _ a b => ⟨a, b⟩) ?_
    refine sq_val rfl (yld_move rfl) rfl ?_
    refine sq_val rfl (yld_nilck rfl) rfl ?_
    refine sq_val rfl (yld_field Tryz.runUnderlying74 rfl rfl rfl Tryz.sizeOf72) rfl ?_
    refine sq_val rfl (yld_load 2 Tryz.isAgg72 rfl rfl rfl) rfl ?_
    refine sq_val rfl (yld_loadS 0 Tryz.isAgg31 Tryz.sizeOf31 rfl rfl rfl) rfl ?_
    refine sq_val rfl (yld_lookupNo Tryz.runUnderlying72 Tryz.zeroValue4 rfl rfl (fun v h _ => (h.own _ (List.mem_of_getElem? (i := 3) rfl)).1) (keyPc (⟨k, a, b, c, r, s, t, lo, hi, frm⟩ : Pc)) hf) rfl ?_
    refine sq_val rfl (yld_not rfl) rfl ?_
    refine sq_nil ?_
    refine any_done (by kernel_rfl) ?_
    refine fin_next rfl (run_cond_t rfl (run_seq ?_))
    refine run_drawH [(b1, .cells #[.int .i64 k, str a, str b, str c, str r, str s, str t, .int .i64 lo, .int .i64 hi, .int .i64 frm] 31 (0, 0)), (bn, .cells #[.int .i64 k, str a, str b, str c, str r, str s, str t, .int .i64 lo, .int .i64 hi, .int .i64 f] 31 (0, 0)), (kb, .cells #[.int .i64 frm, sv, .map (some bm)] 74 (0, 0))] (by kernel_rfl) ?_
    refine any_sq 1 [0, 1, 2, 3, 4] (by kernel_rfl) (fun _ a b => ⟨Vw.sat.sub a, b⟩) ?_
    refine sq_val rfl (yld_move rfl) rfl ?_
    refine sq_val rfl (yld_nilck rfl) rfl ?_
    refine sq_val rfl (yld_field Tryz.runUnderlying74 rfl rfl rfl Tryz.sizeOf72) rfl ?_
    refine sq_val rfl (yld_load 2 Tryz.isAgg72 rfl rfl rfl) rfl ?_
    refine sq_val rfl (yld_loadS 0 Tryz.isAgg31 Tryz.sizeOf31 rfl rfl rfl) rfl ?_
    refine sq_nil ?_
    refine any_one 5 rfl (by kernel_rfl) ?_
    refine ops_insert 3 (.inr rfl) Tryz.runUnderlying72 rfl rfl rfl rfl (keyPc (⟨k, a, b, c, r, s, t, lo, hi, frm⟩ : Pc)) hf ?_
    refine ops_nil (fin_inv rfl (any_next (fun _ a b => ⟨Vw.sat.sub a, b⟩) ?_))
    refine any_done (by kernel_rfl) ?_
    refine fin_next rfl ?_
    refine run_drawH [(b1, .cells #[.int .i64 k, str a, str b, str c, str r, str s, str t, .int .i64 lo, .int .i64 hi, .int .i64 frm] 31 (0, 0))] (by kernel_rfl) ?_
    refine any_sq 6 [0, 1, 2, 3, 5] (by kernel_rfl) (fun _ a b => ⟨Vw.sat.sub a, b⟩) ?_
    refine sq_val rfl (yld_move rfl) rfl ?_
    refine sq_val rfl (yld_move rfl) rfl ?_
    refine sq_val rfl (yld_nilck rfl) rfl ?_
    refine sq_val rfl (yld_field Tryz.runUnderlying74 rfl rfl rfl Tryz.sizeOf25) rfl ?_
    refine sq_val rfl (yld_loadS 0 Tryz.isAgg31 Tryz.sizeOf31 rfl rfl rfl) rfl ?_
    refine sq_nil ?_
    refine any_two 4 6 rfl rfl (by kernel_rfl) ?_ ?_
    ·
     refine ops_val (yld_load 2 Tryz.isAgg25 rfl rfl rfl) rfl ?_
     refine ops_nil (fin_inv rfl (any_next (fun _ a b => ⟨Vw.sat.sub a, b⟩) ?_))
     refine any_one 6 rfl (by kernel_rfl) ?_
     refine ops_slit Tryz.runUnderlying25 Tryz.sizeOf31 Tryz.zeroValue31 rfl rfl rfl rfl rfl rfl fun b2 => ?_
     refine ops_nil (fin_inv rfl (any_next (fun _ a b => ⟨Vw.sat.sub a.tail, b⟩) ?_))
     refine any_one 7 rfl (by kernel_rfl) ?_
     refine ops_append (news := Pc.cells (⟨k, a, b, c, r, s, t, lo, hi, frm⟩ : Pc)) elt25 hq.row rfl rfl (@List.perm_append_comm _ [_, _, _, _, _] _) rfl (own_news 0 rfl) (one_all rfl) (by simp only [maxLen]; omega) (by omega) rfl fun sv2 Hr2 hrow => ?_
     refine ok_perm (@List.perm_append_comm _ _ [_, _, _, _, _]) ?_
     obtain ⟨g2, cp2, cur2, rfl, rfl, hr2⟩ := hrow.some (by omega)
     refine ops_nil (fin_inv rfl (any_next (fun _ a b => ⟨Vw.sat.sub a.tail, b⟩) ?_))
     refine any_sq 1 [8, 9] (by kernel_rfl) (fun _ a b => ⟨Vw.sat.sub a.tail, b⟩) ?_
     refine sq_val rfl (yld_nilck rfl) rfl ?_
     refine sq_val rfl (yld_field Tryz.runUnderlying74 rfl rfl rfl Tryz.sizeOf25) rfl ?_
     refine sq_nil ?_
     refine any_one 10 rfl (by kernel_rfl) ?_
     refine ops_store 3 Tryz.sizeOf25 rfl rfl rfl rfl rfl rfl ?_
     refine ops_nil (fin_inv rfl (any_next (fun _ a b => ⟨Vw.sat.sub a.tail, b⟩) ?_))
     refine any_done (by kernel_rfl) ?_
     refine fin_next rfl (run_region (ops_val (yld_arith rfl rfl rfl (wrap64 (by omega) (by omega))) rfl ?_))
     refine ops_val (yld_move rfl) rfl (ops_nil (fin_inv rfl ?_))
     exact ok_again ⟨(1, ⟨.slice (some ⟨g2, 0, none⟩) (l.length + 1) cp2, bm, es.push ⟨Pc.val (⟨k, a, b, c, r, s, t, lo, hi, frm⟩ : Pc), .bool true, clk⟩, clk + 1, [(g2, .cells cur2 31 (0, 0))]⟩), .inr ⟨rfl, by simp only [ins, if_neg hm]; exact hq.push hrow⟩⟩ Nat.zero_lt_one ⟨rfl, rfl, rfl, rfl, trivial⟩ (F := [_, _]) (@List.perm_append_comm _ [_, _] _) (fun _ _ h => h)
    ·
     refine ops_slit Tryz.runUnderlying25 Tryz.sizeOf31 Tryz.zeroValue31 rfl rfl rfl rfl rfl rfl fun b3 => ?_
     refine ops_nil (fin_inv rfl (any_next (fun _ a b => ⟨Vw.sat.sub a.tail, b⟩) ?_))
     refine any_one 4 rfl (by kernel_rfl) ?_
     refine ops_val (yld_load 3 Tryz.isAgg25 rfl rfl rfl) rfl ?_
     refine ops_nil (fin_inv rfl (any_next (fun _ a b => ⟨Vw.sat.sub a.tail, b⟩) ?_))
     refine any_one 7 rfl (by kernel_rfl) ?_
     refine ops_append (news := Pc.cells (⟨k, a, b, c, r, s, t, lo, hi, frm⟩ : Pc)) elt25 hq.row rfl rfl (@List.perm_append_comm _ [_, _, _, _, _] _) rfl (own_news 0 rfl) (one_all rfl) (by simp only [maxLen]; omega) (by omega) rfl fun sv2 Hr2 hrow => ?_
     refine ok_perm (@List.perm_append_comm _ _ [_, _, _, _, _]) ?_
     obtain ⟨g2, cp2, cur2, rfl, rfl, hr2⟩ := hrow.some (by omega)
     refine ops_nil (fin_inv rfl (any_next (fun _ a b => ⟨Vw.sat.sub a.tail, b⟩) ?_))
     refine any_sq 1 [8, 9] (by kernel_rfl) (fun _ a b => ⟨Vw.sat.sub a.tail, b⟩) ?_
     refine sq_val rfl (yld_nilck rfl) rfl ?_
     refine sq_val rfl (yld_field Tryz.runUnderlying74 rfl rfl rfl Tryz.sizeOf25) rfl ?_
     refine sq_nil ?_
     refine any_one 10 rfl (by kernel_rfl) ?_
     refine ops_store 3 Tryz.sizeOf25 rfl rfl rfl rfl rfl rfl ?_
     refine ops_nil (fin_inv rfl (any_next (fun _ a b => ⟨Vw.sat.sub a.tail, b⟩) ?_))
     refine any_done (by kernel_rfl) ?_
     refine fin_next rfl (run_region (ops_val (yld_arith rfl rfl rfl (wrap64 (by omega) (by omega))) rfl ?_))
     refine ops_val (yld_move rfl) rfl (ops_nil (fin_inv rfl ?_))
     exact ok_again ⟨(1, ⟨.slice (some ⟨g2, 0, none⟩) (l.length + 1) cp2, bm, es.push ⟨Pc.val (⟨k, a, b, c, r, s, t, lo, hi, frm⟩ : Pc), .bool true, clk⟩, clk + 1, [(g2, .cells cur2 31 (0, 0))]⟩), .inr ⟨rfl, by simp only [ins, if_neg hm]; exact hq.push hrow⟩⟩ Nat.zero_lt_one ⟨rfl, rfl, rfl, rfl, trivial⟩ (F := [_, _]) (@List.perm_append_comm _ [_, _] _) (fun _ _ h => h)
 ·
  refine ok_fr [(0, .pointer (some ⟨kb, 0, none⟩)), (6, .slice (some ⟨bn, 0, none⟩) 1 1), (7, .int .i64 1), (8, .int .i64 1)] ⟨rfl, rfl, rfl, rfl, trivial⟩ ?_
  refine run_seq (run_region (ops_valB (yld_lss rfl rfl) rfl fun r2 hr2 => ?_))
  refine ops_nil (fin_next rfl (run_seq ?_))
  cases r2
  ·
   replace hr2 := of_decide_eq_false hr2
   try dsimp only [Con.kind, Con.parts, Con.name, Con.lo, Con.hi, Con.cap, Con.ad] at hr2
   refine run_cond_f rfl (run_exit rfl (fin_end rfl ?_))
   exact end0 Tryz.results52 ⟨q1, hc⟩ rfl (F := [_]) (@List.perm_append_comm _ [_] _) (fun _ _ _ => trivial)
  ·
   replace hr2 := of_decide_eq_true hr2
   try dsimp only [Con.kind, Con.parts, Con.name, Con.lo, Con.hi, Con.cap, Con.ad] at hr2
   exact absurd hr2 (by decide)

end Go.Proofs.YtoafjmalfclpoaaGreatDoor
