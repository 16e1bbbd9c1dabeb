/-
  Part of the proofs over this seat: the small logic, the data, the contracts of functions (no condition).
-/
import Derived.Test.YtoafjmalfclpoaaGreatDoorPk3
import Derived.Test.YtoafjmalfclpoaaGreatDoorPk2
set_option linter.unusedVariables false
set_option linter.unusedSimpArgs false
set_option linter.unusedSectionVars false
/-
  My own contracts.
-/
namespace Go.Proofs.YtoafjmalfclpoaaGreatDoor
open Go Go.Sx Go.Proofs
set_option linter.unusedVariables false
attribute [local irreducible] Code.wp wpList wpAnyH

open Go.Vs
theorem strt74 : Strt Tryz.prog 74 [(0, 1), (1, 1), (2, 1)] [.int .i64 0, .slice none 0 0, .map none] := ⟨_, Tryz.zeroValue74, Tryz.runUnderlying74, fun w => by simp [Tryz.sizeOf3, Tryz.sizeOf25, Tryz.sizeOf72]⟩

theorem newCollector_c (frm : Int) : Tri Tryz.prog 39 #[.int .i64 frm] [] [] (fun x : Nat × Nat => .pointer (some ⟨x.1, 0, none⟩)) (fun x => collH x.1 frm ⟨.slice none 0 0, x.2, #[], 0, []⟩) (fun _ => []) := by
  refine tri_of_body Tryz.func39 rfl rfl Tryz.ntmps39 rfl fun v0 => ?_
  refine run_seq (run_region (ops_val (yld_assign rfl) rfl (ops_nil (fin_next rfl (run_seq (run_region (ops_val (yld_move rfl) rfl ?_)))))))
  refine ops_mkmap rfl fun b1 => ?_
  refine ops_val (yld_struct strt74 rfl rfl) rfl ?_
  refine ops_box rfl rfl fun b2 => ?_
  refine ops_val (yld_assign rfl) rfl (ops_nil (fin_next rfl (run_ret ?_)))
  exact ret1 Tryz.results39 (b2, b1) rfl (F := []) (.refl _) (fun _ _ _ => trivial)

/-- the variables that the closures left and right hold -/
def kF (b kb : Nat) : Fct := objF b (.cells [.pointer (some ⟨kb, 0, none⟩)].toArray 69 (0, 0))
def lFn (b bk : Nat) : Value := .func (.func 94) #[] #[.pointer (some ⟨b, 0, none⟩), .pointer (some ⟨bk, 0, none⟩)]
def lF (b bk : Nat) : Fct := objF b (.cells [lFn b bk].toArray 79 (0, 0))
def rFn (b bk : Nat) : Value := .func (.func 95) #[] #[.pointer (some ⟨bk, 0, none⟩), .pointer (some ⟨b, 0, none⟩)]
def rF (b bk : Nat) : Fct := objF b (.cells [rFn b bk].toArray 79 (0, 0))

theorem sides_c (kb : Nat) : Tri Tryz.prog 48 #[.pointer (some ⟨kb, 0, none⟩)] [] [] (fun x : Nat × Nat × Nat => .tuple #[lFn x.2.1 x.1, rFn x.2.2 x.1]) (fun _ => []) (fun x => [kF x.1 kb, lF x.2.1 x.1, rF x.2.2 x.1]) := by
  refine tri_of_body Tryz.func48 rfl rfl Tryz.ntmps48 rfl fun v0 => ?_
  refine run_seq (run_region (ops_box rfl rfl fun b1 => ?_))
  refine ops_alloc Tryz.zeroValue79 rfl fun b2 => ?_
  refine ops_alloc Tryz.zeroValue79 rfl fun b3 => ?_
  refine ops_nil (fin_next rfl (run_seq (run_region (ops_val (yld_func rfl rfl) rfl ?_))))
  refine ops_store 1 Tryz.sizeOf79 rfl rfl rfl rfl rfl rfl ?_
  refine ops_nil (fin_next rfl (run_seq (run_region (ops_val (yld_func rfl rfl) rfl ?_))))
  refine ops_store 0 Tryz.sizeOf79 rfl rfl rfl rfl rfl rfl ?_
  refine ops_nil (fin_next rfl (run_seq ?_))
  refine run_draw' (by kernel_rfl) ?_
  refine any_sq 2 [0, 1] (by kernel_rfl) (fun _ a b => ⟨a, b⟩) ?_
  refine sq_val rfl (yld_load 1 Tryz.isAgg79 rfl rfl rfl) rfl ?_
  refine sq_val rfl (yld_load 0 Tryz.isAgg79 rfl rfl rfl) rfl ?_
  refine sq_nil ?_
  refine any_one 2 rfl (by kernel_rfl) ?_
  refine ops_store 1 Tryz.sizeOf79 rfl rfl rfl rfl rfl rfl ?_
  refine ops_nil (fin_inv rfl (any_next (fun _ a b => ⟨a, b⟩) ?_))
  refine any_one 3 rfl (by kernel_rfl) ?_
  refine ops_store 0 Tryz.sizeOf79 rfl rfl rfl rfl rfl rfl ?_
  refine ops_nil (fin_inv rfl (any_next (fun _ a b => ⟨a, b⟩) ?_))
  refine any_done (by kernel_rfl) ?_
  refine fin_next rfl (run_ret (ok_giveO 0 rfl ?_))
  refine ok_giveO 0 rfl ?_
  refine ok_giveO 0 rfl ?_
  exact retG (b1, b2, b3) (fun a v h1 h2 h => res_two Tryz.results48 Tryz.isAgg79 Tryz.isAgg79 h1 rfl rfl (obj_cell (cs := [lFn b2 b1]) 0 h.2.1 rfl) (obj_cell (cs := [rFn b3 b1]) 0 h.2.2.1 rfl)) (F := []) (.refl _) (fun v _ h => ⟨h.1, h.2.1, h.2.2.1, trivial⟩)

end Go.Proofs.YtoafjmalfclpoaaGreatDoor

/-
  My own contracts.
-/
namespace Go.Proofs.YtoafjmalfclpoaaGreatDoor
open Go Go.Sx Go.Proofs
set_option linter.unusedVariables false
attribute [local irreducible] Code.wp wpList wpAnyH

open Go.Vs
theorem Con.mem_tail {c : Con} (hok : c.ok) {v : Vw} (h : c.mem v) : RowAt v (sad c.ad c.cap 1 5) ((c.parts.drop 1).flatMap Con.cells) := by
  have := ((Con.mem_iff c v).1 h).1.slice Con.cells_len (Con.ok_len hok).1 1 c.parts.length
  rwa [List.take_of_length_le (by simp)] at this
theorem Con.drop_at {ps : List Con} {p : Con} {i : Nat} (hp : ps[i]? = some p) : ps.drop i = p :: ps.drop (i + 1) := by
  have hi := (List.getElem?_eq_some_iff.1 hp).1
  rw [List.getElem?_eq_getElem hi] at hp
  simp only [Option.some.injEq] at hp
  subst hp
  exact List.drop_eq_getElem_cons hi
theorem Con.szs_append : ∀ (xs ys : List Con), Con.sz.szs (xs ++ ys) = Con.sz.szs xs + Con.sz.szs ys
  | [], ys => by simp [Con.sz.szs]
  | x :: xs, ys => by simp only [List.cons_append, Con.sz.szs, Con.szs_append xs ys]; omega
theorem Con.sz_at {ps : List Con} {p : Con} {i : Nat} (hp : ps[i]? = some p) : Con.sz.szs (ps.take i) + p.sz ≤ Con.sz.szs ps := by
  have e : Con.sz.szs ps = Con.sz.szs (ps.take i ++ (p :: ps.drop (i + 1))) := by rw [← Con.drop_at hp, List.take_append_drop]
  rw [e, Con.szs_append]
  simp only [Con.sz.szs]; omega
theorem Con.lefts_len (frm : Int) (ps : List Con) (i : Nat) (l : List Pc) : (Con.leftP.lefts frm (ps.take i) l).length + (ps.take i).length ≤ l.length + 2 * Con.sz.szs (ps.take i) := by
  generalize ps.take i = qs
  induction qs generalizing l with
  | nil => simp [Con.leftP.lefts]
  | cons p qs ih =>
    have h1 := Con.leftP_len frm _ p (Nat.le_refl _) l
    have h2 := ih (p.leftP frm l)
    simp only [Con.leftP.lefts, Con.sz.szs, List.length_cons]
    omega
theorem Con.rights_len (frm : Int) (a : Str) (ps : List Con) (i : Nat) (l : List Pc) : (Con.rightP.rights frm a (ps.take i) l).length ≤ l.length + 2 * Con.sz.szs (ps.take i) := by
  generalize ps.take i = qs
  induction qs generalizing l with
  | nil => simp [Con.rightP.rights]
  | cons p qs ih =>
    have h0 := ins_len frm l ⟨1, a, [], p.atom, [], [], [], 0, 0, 0⟩
    have h1 := Con.rightP_len frm _ p (Nat.le_refl _) (ins frm l ⟨1, a, [], p.atom, [], [], [], 0, 0, 0⟩)
    have h2 := ih (p.rightP frm (ins frm l ⟨1, a, [], p.atom, [], [], [], 0, 0, 0⟩))
    simp only [Con.rightP.rights, Con.sz.szs]
    omega

theorem Con.headD_atom {ps : List Con} {p : Con} (hp : ps[0]? = some p) : (ps.map Con.atom).headD [] = p.atom := by cases ps <;> simp_all
theorem Con.leftP5 {c : Con} (h : c.kind = 5) (frm : Int) (l : List Pc) : c.leftP frm l = Con.andP frm c (c.parts.drop 1) 1 ((c.parts.map Con.atom).headD []) (Con.leftP.lefts frm c.parts l) := by rw [Con.leftP_eq, if_pos h]
theorem Con.leftP6 {c p : Con} (h : c.kind = 6) (hp : c.parts = [p]) (frm : Int) (l : List Pc) : c.leftP frm l = ins frm (p.leftP frm l) ⟨4, p.atom, [], c.atom, c.name, [], [], 0, 0, 0⟩ := by
  rw [Con.leftP_eq, if_neg (by omega), if_pos h, hp]; rfl
theorem Con.leftP7 {c : Con} (h : c.kind = 7) (frm : Int) (l : List Pc) : c.leftP frm l = ins frm l ⟨9, [], [], c.atom, c.name, [], [], c.lo, c.hi, 0⟩ := by rw [Con.leftP_eq, if_neg (by omega), if_neg (by omega), if_pos h]
theorem Con.leftP0 {c : Con} (h5 : c.kind ≠ 5) (h6 : c.kind ≠ 6) (h7 : c.kind ≠ 7) (frm : Int) (l : List Pc) : c.leftP frm l = l := by rw [Con.leftP_eq, if_neg h5, if_neg h6, if_neg h7]
theorem Con.rightP5 {c : Con} (h : c.kind = 5) (frm : Int) (l : List Pc) : c.rightP frm l = Con.rightP.rights frm c.atom c.parts l := by rw [Con.rightP_eq, if_pos h]
theorem Con.rightP6 {c p : Con} (h : c.kind = 6) (hp : c.parts = [p]) (frm : Int) (l : List Pc) : c.rightP frm l = p.rightP frm (ins frm l ⟨3, c.atom, [], p.atom, c.name, [], [], 0, 0, 0⟩) := by
  rw [Con.rightP_eq, if_neg (by omega), if_pos h, hp]; rfl
theorem Con.rightP7 {c : Con} (h : c.kind = 7) (frm : Int) (l : List Pc) : c.rightP frm l = ins frm l ⟨8, c.atom, [], [], c.name, [], [], c.lo, c.hi, 0⟩ := by rw [Con.rightP_eq, if_neg (by omega), if_neg (by omega), if_pos h]
theorem Con.rightP0 {c : Con} (h5 : c.kind ≠ 5) (h6 : c.kind ≠ 6) (h7 : c.kind ≠ 7) (frm : Int) (l : List Pc) : c.rightP frm l = l := by rw [Con.rightP_eq, if_neg h5, if_neg h6, if_neg h7]

end Go.Proofs.YtoafjmalfclpoaaGreatDoor

/-
  My own contracts.
-/
namespace Go.Proofs.YtoafjmalfclpoaaGreatDoor
open Go Go.Sx Go.Proofs
set_option linter.unusedVariables false
attribute [local irreducible] Code.wp wpList wpAnyH

open Go.Vs
theorem strt38 : Strt Tryz.prog 38 [(0, 1), (1, 1), (2, 1), (3, 1), (4, 1)] [.int .i64 0, str [], .int .i64 0, .int .i64 0, .slice none 0 0] := ⟨_, Tryz.zeroValue38, Tryz.runUnderlying38, fun w => by simp [Tryz.sizeOf3, Tryz.sizeOf9, Tryz.sizeOf36]⟩

theorem left_c {kb bk bs : Nat} {frm : Int} : ∀ (d : Nat) (c : Con), c.sz ≤ d → c.ok → c.fine → ∀ (l : List Pc) (q : CS), CInv l q → l.length + 2 * c.sz ≤ 100000 →
  Tri Tryz.prog 94 #[c.val, .pointer (some ⟨bs, 0, none⟩), .pointer (some ⟨bk, 0, none⟩)] (collH kb frm q) [c.memF, tabs, kF bk kb, lF bs bk] (fun _ : {q' : CS // CInv (c.leftP frm l) q'} => .tuple #[]) (fun q' => collH kb frm q'.1) (fun _ => []) := by
 intro d
 induction d with
 | zero => intro c h; have := c.sz_pos; omega
 | succ d ih =>
  intro c hd hok hf l q hq hl
  have F := Con.fields hf
  have hle := F.le
  have hmo := F.mo
  obtain ⟨k, nm, lo, hi, ad, cap, ps⟩ := c
  have hlen := Con.ok_len hok
  have hsz : (Con.mk k nm lo hi ad cap ps).sz = 1 + Con.sz.szs ps := by simp only [Con.sz]
  have hsl := Con.szs_len ps
  simp only [Con.parts, Con.cap, Con.kind] at hlen hle hmo
  refine tri_of_body Tryz.func94 rfl rfl Tryz.ntmps94 rfl fun v0 => ?_
  refine run_seq (run_region (ops_box rfl rfl fun b1 => ?_))
  refine ops_nil (fin_next rfl (run_seq (run_region (ops_val (yld_field Tryz.runUnderlying38 rfl rfl rfl Tryz.sizeOf3) rfl ?_))))
  refine ops_val (yld_load 0 Tryz.isAgg3 rfl rfl rfl) rfl ?_
  refine ops_nil (fin_next rfl (run_block (run_seq (run_region (ops_valB (yld_eql rfl rfl) rfl fun r1 hr1 => ?_)))))
  refine ops_val (yld_assign rfl) rfl (ops_nil (fin_next rfl ?_))
  cases r1
  ·
   replace hr1 := ne_of_beq_false hr1
   try dsimp only [Con.kind, Con.parts, Con.name, Con.lo, Con.hi, Con.cap, Con.ad] at hr1
   refine run_cond_f rfl (run_seq (run_region (ops_valB (yld_eql rfl rfl) rfl fun r2 hr2 => ?_)))
   refine ops_val (yld_assign rfl) rfl (ops_nil (fin_next rfl ?_))
   cases r2
   ·
    replace hr2 := ne_of_beq_false hr2
    try dsimp only [Con.kind, Con.parts, Con.name, Con.lo, Con.hi, Con.cap, Con.ad] at hr2
    refine run_cond_f rfl (run_seq (run_region (ops_valB (yld_eql rfl rfl) rfl fun r3 hr3 => ?_)))
    refine ops_val (yld_assign rfl) rfl (ops_nil (fin_next rfl ?_))
    cases r3
    ·
     replace hr3 := ne_of_beq_false hr3
     try dsimp only [Con.kind, Con.parts, Con.name, Con.lo, Con.hi, Con.cap, Con.ad] at hr3
     refine run_cond_f rfl (run_skip (fin_end rfl ?_))
     exact end0 Tryz.results94 ⟨q, (by rw [Con.leftP0 (c := (.mk k nm lo hi ad cap ps)) (by assumption) (by assumption) (by assumption)]; exact hq)⟩ rfl (F := [_]) (@List.perm_append_comm _ [_] _) (fun _ _ _ => trivial)
    ·
     replace hr3 := eq_of_beq hr3
     try dsimp only [Con.kind, Con.parts, Con.name, Con.lo, Con.hi, Con.cap, Con.ad] at hr3
     refine run_cond_t rfl ?_
     refine run_drawH [(b1, .cells #[.int .i64 k, str nm, .int .i64 lo, .int .i64 hi, .slice ad ps.length cap] 38 (0, 0))] (by kernel_rfl) ?_
     refine any_sq 4 [0, 1, 2, 3, 4, 5, 6, 7] (by kernel_rfl) (fun _ a b => ⟨Vw.sat.sub a, b⟩) ?_
     refine sq_val rfl (yld_loadO (cs := [.pointer (some ⟨kb, 0, none⟩)]) Tryz.isAgg69 rfl (fun v _ h => h.2.2.1) rfl) rfl ?_
     refine sq_val rfl (yld_field Tryz.runUnderlying38 rfl rfl rfl Tryz.sizeOf9) rfl ?_
     refine sq_val rfl (yld_load 0 Tryz.isAgg9 rfl rfl rfl) rfl ?_
     refine sq_val rfl (yld_field Tryz.runUnderlying38 rfl rfl rfl Tryz.sizeOf3) rfl ?_
     refine sq_val rfl (yld_load 0 Tryz.isAgg3 rfl rfl rfl) rfl ?_
     refine sq_val rfl (yld_field Tryz.runUnderlying38 rfl rfl rfl Tryz.sizeOf3) rfl ?_
     refine sq_val rfl (yld_load 0 Tryz.isAgg3 rfl rfl rfl) rfl ?_
     refine sq_val rfl (yld_loadS 0 Tryz.isAgg38 Tryz.sizeOf38 rfl rfl rfl) rfl ?_
     refine sq_nil ?_
     refine any_one 8 rfl (by kernel_rfl) ?_
     refine ops_call (atom_c (.mk k nm lo hi ad cap ps) hok) rfl (.refl _) (fun v _ h => ⟨h.1, h.2.1, trivial⟩) rfl fun _ => ?_
     refine ops_nil (fin_inv rfl (any_next (fun _ a b => ⟨Vw.sat.sub a, b⟩) ?_))
     refine any_sq 2 [9] (by kernel_rfl) (fun _ a b => ⟨Vw.sat.sub a, b⟩) ?_
     refine sq_val rfl (yld_struct strt31 rfl rfl) rfl ?_
     refine sq_nil ?_
     refine any_one 10 rfl (by kernel_rfl) ?_
     refine ops_slit Tryz.runUnderlying25 Tryz.sizeOf31 Tryz.zeroValue31 rfl rfl rfl rfl rfl rfl fun b2 => ?_
     refine ops_nil (fin_inv rfl (any_next (fun _ a b => ⟨Vw.sat.sub a.tail, b⟩) ?_))
     refine any_one 11 rfl (by kernel_rfl) ?_
     refine ops_call (add_c ⟨9, [], [], Con.atom (.mk k nm lo hi ad cap ps), nm, [], [], lo, hi, 0⟩ frm l q hq (by omega)) rfl (.cons _ (@List.perm_append_comm _ [_] _)) (fun _ _ _ => trivial) rfl fun x => ?_
     obtain ⟨q2, hq2⟩ := x
     refine ok_perm (@List.perm_append_comm _ _ [_]) ?_
     refine ops_nil (fin_inv rfl (any_next (fun _ a b => ⟨Vw.sat.sub a, b⟩) ?_))
     refine any_done (by kernel_rfl) ?_
     refine fin_end rfl ?_
     exact end0 Tryz.results94 ⟨q2, (by rw [Con.leftP7 (c := (.mk k nm lo hi ad cap ps)) (by assumption)]; exact hq2)⟩ rfl (F := [_]) (@List.perm_append_comm _ [_] _) (fun _ _ _ => trivial)
   ·
    replace hr2 := eq_of_beq hr2
    try dsimp only [Con.kind, Con.parts, Con.name, Con.lo, Con.hi, Con.cap, Con.ad] at hr2
    rw [hr2] at hle hmo
    simp [nd, needL] at hle hmo
    obtain ⟨p, hps⟩ := List.length_eq_one_iff.1 (show ps.length = 1 by omega)
    have hp : ps[0]? = some p := by rw [hps]; rfl
    have hpm : p ∈ ps := List.mem_of_getElem? hp
    refine run_cond_t rfl (run_seq ?_)
    refine run_drawH [(b1, .cells #[.int .i64 k, str nm, .int .i64 lo, .int .i64 hi, .slice ad ps.length cap] 38 (0, 0))] (by kernel_rfl) ?_
    refine any_sq 1 [0, 1, 2, 3, 4] (by kernel_rfl) (fun _ a b => ⟨Vw.sat.sub a, b⟩) ?_
    refine sq_val rfl (yld_loadO (cs := [lFn bs bk]) Tryz.isAgg79 rfl (fun v _ h => h.2.2.2.1) rfl) rfl ?_
    refine sq_val rfl (yld_field Tryz.runUnderlying38 rfl rfl rfl Tryz.sizeOf36) rfl ?_
    refine sq_val rfl (yld_load 0 Tryz.isAgg36 rfl rfl rfl) rfl ?_
    refine sq_val rfl (yld_indexR Tryz.runUnderlying36 Tryz.sizeOf38 rfl rfl (fun v _ h => row_adr (n := 5) Con.cells_len (by decide) (((Con.mem_iff (.mk k nm lo hi ad cap ps) v).1 h.1).1) hp) (by omega) (by first | omega | (simp only [Con.parts]; omega) | (simp [Con.parts]; done))) rfl ?_
    refine sq_val rfl (yld_loadRS (ad := ad) (us := p.cells) Tryz.isAgg38 Tryz.sizeOf38 rfl (fun v _ h => ((Con.mem_iff (.mk k nm lo hi ad cap ps) v).1 h.1).1) (Con.cells_len _) (row_cells Con.cells_len hp)) rfl ?_
    refine sq_nil ?_
    refine any_one 5 rfl (by kernel_rfl) ?_
    refine ops_calld (ih p (by have := Con.sz_part (c := (.mk k nm lo hi ad cap ps)) hpm; omega) (Con.ok_part (c := (.mk k nm lo hi ad cap ps)) hok hpm) (Con.fine_part (c := (.mk k nm lo hi ad cap ps)) hf hpm) l q hq (by have := Con.sz_at hp; omega)) rfl rfl (@List.perm_append_comm _ [_] _) (fun v _ h => by exact ⟨Con.mem_part (c := (.mk k nm lo hi ad cap ps)) h.1 hpm, h.2⟩) rfl fun x => ?_
    obtain ⟨q5, hq5⟩ := x
    refine ok_perm (@List.perm_append_comm _ _ [_]) ?_
    refine ops_nil (fin_inv rfl (any_next (fun _ a b => ⟨Vw.sat.sub a, b⟩) ?_))
    refine any_done (by kernel_rfl) ?_
    refine fin_next rfl ?_
    refine run_drawH [(b1, .cells #[.int .i64 k, str nm, .int .i64 lo, .int .i64 hi, .slice ad ps.length cap] 38 (0, 0))] (by kernel_rfl) ?_
    refine any_sq 5 [0, 1, 2, 3, 4, 5, 6, 8] (by kernel_rfl) (fun _ a b => ⟨Vw.sat.sub a, b⟩) ?_
    refine sq_val rfl (yld_loadO (cs := [.pointer (some ⟨kb, 0, none⟩)]) Tryz.isAgg69 rfl (fun v _ h => h.2.2.1) rfl) rfl ?_
    refine sq_val rfl (yld_field Tryz.runUnderlying38 rfl rfl rfl Tryz.sizeOf9) rfl ?_
    refine sq_val rfl (yld_load 0 Tryz.isAgg9 rfl rfl rfl) rfl ?_
    refine sq_val rfl (yld_field Tryz.runUnderlying38 rfl rfl rfl Tryz.sizeOf36) rfl ?_
    refine sq_val rfl (yld_load 0 Tryz.isAgg36 rfl rfl rfl) rfl ?_
    refine sq_val rfl (yld_indexR Tryz.runUnderlying36 Tryz.sizeOf38 rfl rfl (fun v _ h => row_adr (n := 5) Con.cells_len (by decide) (((Con.mem_iff (.mk k nm lo hi ad cap ps) v).1 h.1).1) hp) (by omega) (by first | omega | (simp only [Con.parts]; omega) | (simp [Con.parts]; done))) rfl ?_
    refine sq_val rfl (yld_loadRS (ad := ad) (us := p.cells) Tryz.isAgg38 Tryz.sizeOf38 rfl (fun v _ h => ((Con.mem_iff (.mk k nm lo hi ad cap ps) v).1 h.1).1) (Con.cells_len _) (row_cells Con.cells_len hp)) rfl ?_
    refine sq_val rfl (yld_loadS 0 Tryz.isAgg38 Tryz.sizeOf38 rfl rfl rfl) rfl ?_
    refine sq_nil ?_
    refine any_one 7 rfl (by kernel_rfl) ?_
    refine ops_call (atom_c p (Con.ok_part (c := (.mk k nm lo hi ad cap ps)) hok hpm)) rfl (.refl _) (fun v _ h => ⟨Con.mem_part (c := (.mk k nm lo hi ad cap ps)) h.1 hpm, h.2.1, trivial⟩) rfl fun _ => ?_
    refine ops_nil (fin_inv rfl (any_next (fun _ a b => ⟨Vw.sat.sub a, b⟩) ?_))
    refine any_one 9 rfl (by kernel_rfl) ?_
    refine ops_call (atom_c (.mk k nm lo hi ad cap ps) hok) rfl (.refl _) (fun v _ h => ⟨h.1, h.2.1, trivial⟩) rfl fun _ => ?_
    refine ops_nil (fin_inv rfl (any_next (fun _ a b => ⟨Vw.sat.sub a, b⟩) ?_))
    refine any_sq 2 [10] (by kernel_rfl) (fun _ a b => ⟨Vw.sat.sub a, b⟩) ?_
    refine sq_val rfl (yld_struct strt31 rfl rfl) rfl ?_
    refine sq_nil ?_
    refine any_one 11 rfl (by kernel_rfl) ?_
    refine ops_slit Tryz.runUnderlying25 Tryz.sizeOf31 Tryz.zeroValue31 rfl rfl rfl rfl rfl rfl fun b3 => ?_
    refine ops_nil (fin_inv rfl (any_next (fun _ a b => ⟨Vw.sat.sub a.tail, b⟩) ?_))
    refine any_one 12 rfl (by kernel_rfl) ?_
    refine ops_call (add_c ⟨4, p.atom, [], Con.atom (.mk k nm lo hi ad cap ps), nm, [], [], 0, 0, 0⟩ frm (p.leftP frm l) q5 hq5 (by have := Con.leftP_len frm _ p (Nat.le_refl _) l; have := Con.sz_at hp; omega)) rfl (.cons _ (@List.perm_append_comm _ [_] _)) (fun _ _ _ => trivial) rfl fun x => ?_
    obtain ⟨q7, hq7⟩ := x
    refine ok_perm (@List.perm_append_comm _ _ [_]) ?_
    refine ops_nil (fin_inv rfl (any_next (fun _ a b => ⟨Vw.sat.sub a, b⟩) ?_))
    refine any_done (by kernel_rfl) ?_
    refine fin_end rfl ?_
    exact end0 Tryz.results94 ⟨q7, (by rw [Con.leftP6 (c := (.mk k nm lo hi ad cap ps)) (p := p) (by assumption) hps]; exact hq7)⟩ rfl (F := [_]) (@List.perm_append_comm _ [_] _) (fun _ _ _ => trivial)
  ·
   replace hr1 := eq_of_beq hr1
   try dsimp only [Con.kind, Con.parts, Con.name, Con.lo, Con.hi, Con.cap, Con.ad] at hr1
   rw [hr1] at hle hmo
   simp [nd, needL] at hle hmo
   refine run_cond_t rfl (run_seq (run_seq (run_region (ops_val (yld_field Tryz.runUnderlying38 rfl rfl rfl Tryz.sizeOf36) rfl ?_))))
   refine ops_val (yld_load 0 Tryz.isAgg36 rfl rfl rfl) rfl ?_
   refine ops_val (yld_lenS Tryz.runUnderlying36 rfl) rfl ?_
   refine ops_val (yld_move rfl) rfl (ops_nil (fin_next rfl (run_block (ok_fr [(1, .pointer (some ⟨bs, 0, none⟩)), (2, .pointer (some ⟨bk, 0, none⟩)), (3, .pointer (some ⟨b1, 0, none⟩)), (15, .slice ad ps.length cap), (16, .int .i64 (ps.length : Int)), (17, .int .i64 ((0 : Nat) : Int))] ⟨rfl, rfl, rfl, rfl, rfl, rfl, trivial⟩ ?_))))
   refine run_loop (ι := {x : Nat × CS // x.1 ≤ ps.length ∧ CInv (Con.leftP.lefts frm (ps.take x.1) l) x.2}) (fun x => [(1, .pointer (some ⟨bs, 0, none⟩)), (2, .pointer (some ⟨bk, 0, none⟩)), (3, .pointer (some ⟨b1, 0, none⟩)), (15, .slice ad ps.length cap), (16, .int .i64 (ps.length : Int)), (17, .int .i64 (x.1.1 : Int))]) (fun x => _ :: collH kb frm x.1.2) (fun _ => _) (fun x => ps.length - x.1.1) ⟨(0, q), by simp, by simpa [Con.leftP.lefts] using hq⟩ ?_
   rintro ⟨⟨i, q0⟩, hk⟩
   dsimp only at hk
   refine ok_fr [(1, .pointer (some ⟨bs, 0, none⟩)), (2, .pointer (some ⟨bk, 0, none⟩)), (3, .pointer (some ⟨b1, 0, none⟩)), (15, .slice ad ps.length cap), (16, .int .i64 (ps.length : Int)), (17, .int .i64 (i : Int))] ⟨rfl, rfl, rfl, rfl, rfl, rfl, trivial⟩ ?_
   refine run_seq (run_region (ops_valB (yld_lss rfl rfl) rfl fun r4 hr4 => ?_))
   refine ops_nil (fin_next rfl (run_seq ?_))
   cases r4
   ·
    replace hr4 := of_decide_eq_false hr4
    try dsimp only [Con.kind, Con.parts, Con.name, Con.lo, Con.hi, Con.cap, Con.ad] at hr4
    obtain rfl : i = ps.length := by omega
    rw [List.take_length] at hk
    obtain ⟨p, hp⟩ : ∃ p, ps[0]? = some p := ⟨_, List.getElem?_eq_getElem (show 0 < ps.length by omega)⟩
    have hpm : p ∈ ps := List.mem_of_getElem? hp
    refine run_cond_f rfl (run_exit rfl (fin_next rfl (run_seq (run_region (ops_val (yld_field Tryz.runUnderlying38 rfl rfl rfl Tryz.sizeOf36) rfl ?_)))))
    refine ops_val (yld_load 0 Tryz.isAgg36 rfl rfl rfl) rfl ?_
    refine ops_val (yld_indexR Tryz.runUnderlying36 Tryz.sizeOf38 rfl rfl (fun v _ h => row_adr (n := 5) Con.cells_len (by decide) (((Con.mem_iff (.mk k nm lo hi ad cap ps) v).1 h.1).1) hp) (by omega) (by first | omega | (simp only [Con.parts]; omega) | (simp [Con.parts]; done))) rfl ?_
    refine ops_val (yld_loadRS (ad := ad) (us := p.cells) Tryz.isAgg38 Tryz.sizeOf38 rfl (fun v _ h => ((Con.mem_iff (.mk k nm lo hi ad cap ps) v).1 h.1).1) (Con.cells_len _) (row_cells Con.cells_len hp)) rfl ?_
    refine ops_call (atom_c p (Con.ok_part (c := (.mk k nm lo hi ad cap ps)) hok hpm)) rfl (.refl _) (fun v _ h => ⟨Con.mem_part (c := (.mk k nm lo hi ad cap ps)) h.1 hpm, h.2.1, trivial⟩) rfl fun _ => ?_
    refine ops_val (yld_assign rfl) rfl (ops_nil (fin_next rfl (run_seq (run_region (ops_val (yld_field Tryz.runUnderlying38 rfl rfl rfl Tryz.sizeOf36) rfl ?_)))))
    refine ops_val (yld_load 0 Tryz.isAgg36 rfl rfl rfl) rfl ?_
    refine ops_val (yld_sliceS (i := 1) (j := ps.length) (kl := .i64) (kh := .i64) Tryz.runUnderlying36 Tryz.sizeOf38 rfl rfl rfl (by omega) (by first | omega | (simp only [Con.cap]; omega))) rfl ?_
    refine ops_val (yld_lenS Tryz.runUnderlying36 rfl) rfl ?_
    refine ops_val (yld_move rfl) rfl (ops_nil (fin_next rfl (run_block (ok_fr [(1, .pointer (some ⟨bs, 0, none⟩)), (2, .pointer (some ⟨bk, 0, none⟩)), (3, .pointer (some ⟨b1, 0, none⟩)), (6, str p.atom), (32, .slice (sad ad cap 1 5) (ps.length - 1) (cap - 1)), (33, .int .i64 ((ps.length - 1 : Nat) : Int)), (34, .int .i64 ((0 : Nat) : Int))] ⟨rfl, rfl, rfl, rfl, rfl, rfl, rfl, trivial⟩ ?_))))
    have hh := Con.headD_atom hp
    have hL0 := Con.lefts_len frm ps ps.length l
    rw [List.take_length] at hL0
    generalize p.atom = f0 at hh ⊢
    refine run_loop (ι := {x : Nat × Str × List Pc × CS // x.1 ≤ ps.length - 1 ∧ CInv x.2.2.1 x.2.2.2 ∧ x.2.2.1.length ≤ (Con.leftP.lefts frm ps l).length + x.1 ∧ Con.andP frm (.mk k nm lo hi ad cap ps) (ps.drop 1) 1 f0 (Con.leftP.lefts frm ps l) = Con.andP frm (.mk k nm lo hi ad cap ps) (ps.drop (1 + x.1)) (1 + x.1) x.2.1 x.2.2.1}) (fun x => [(1, .pointer (some ⟨bs, 0, none⟩)), (2, .pointer (some ⟨bk, 0, none⟩)), (3, .pointer (some ⟨b1, 0, none⟩)), (6, str x.1.2.1), (32, .slice (sad ad cap 1 5) (ps.length - 1) (cap - 1)), (33, .int .i64 ((ps.length - 1 : Nat) : Int)), (34, .int .i64 (x.1.1 : Int))]) (fun x => _ :: collH kb frm x.1.2.2.2) (fun _ => _) (fun x => ps.length - 1 - x.1.1) ⟨(0, f0, (Con.leftP.lefts frm ps l), q0), by simp, hk.2, by simp, rfl⟩ ?_
    rintro ⟨⟨i, f, l1, q2⟩, hj⟩
    dsimp only at hj
    refine ok_fr [(1, .pointer (some ⟨bs, 0, none⟩)), (2, .pointer (some ⟨bk, 0, none⟩)), (3, .pointer (some ⟨b1, 0, none⟩)), (6, str f), (32, .slice (sad ad cap 1 5) (ps.length - 1) (cap - 1)), (33, .int .i64 ((ps.length - 1 : Nat) : Int)), (34, .int .i64 (i : Int))] ⟨rfl, rfl, rfl, rfl, rfl, rfl, rfl, trivial⟩ ?_
    refine run_seq (run_region (ops_valB (yld_lss rfl rfl) rfl fun r5 hr5 => ?_))
    refine ops_nil (fin_next rfl (run_seq ?_))
    cases r5
    ·
     replace hr5 := of_decide_eq_false hr5
     try dsimp only [Con.kind, Con.parts, Con.name, Con.lo, Con.hi, Con.cap, Con.ad] at hr5
     refine run_cond_f rfl (run_exit rfl (fin_end rfl ?_))
     exact end0 Tryz.results94 ⟨q2, (by have e := hj.2.2.2; rw [List.drop_of_length_le (show ps.length ≤ 1 + i by omega)] at e; rw [Con.leftP5 (c := (.mk k nm lo hi ad cap ps)) (by assumption)]; simp only [Con.parts, hh]; rw [e]; exact hj.2.1)⟩ rfl (F := [_]) (@List.perm_append_comm _ [_] _) (fun _ _ _ => trivial)
    ·
     replace hr5 := of_decide_eq_true hr5
     try dsimp only [Con.kind, Con.parts, Con.name, Con.lo, Con.hi, Con.cap, Con.ad] at hr5
     have hlt : i < ps.length - 1 := by omega
     obtain ⟨p, hp⟩ : ∃ p, (ps.drop 1)[i]? = some p := ⟨_, List.getElem?_eq_getElem (by simp; omega)⟩
     have hp0 : ps[1 + i]? = some p := by rw [← List.getElem?_drop]; exact hp
     have hpm : p ∈ ps := List.mem_of_getElem? hp0
     refine run_cond_t rfl (run_skip (fin_next rfl (run_seq (run_block (run_seq (run_region (ops_val (yld_move rfl) rfl ?_)))))))
     refine ops_val (yld_indexR Tryz.runUnderlying36 Tryz.sizeOf38 rfl rfl (fun v _ h => row_adr (n := 5) Con.cells_len (by decide) ((Con.mem_tail (c := (.mk k nm lo hi ad cap ps)) hok h.1)) hp) (by omega) (by first | omega | (simp only [Con.parts]; omega) | (simp [Con.parts]; done))) rfl ?_
     refine ops_val (yld_loadRS (ad := (sad ad cap 1 5)) (us := p.cells) Tryz.isAgg38 Tryz.sizeOf38 rfl (fun v _ h => (Con.mem_tail (c := (.mk k nm lo hi ad cap ps)) hok h.1)) (Con.cells_len _) (row_cells Con.cells_len hp)) rfl ?_
     refine ops_alloc Tryz.zeroValue38 rfl fun b4 => ?_
     refine ops_val (yld_assign rfl) rfl (ops_storeC 0 Tryz.sizeOf38 rfl rfl rfl rfl ?_)
     refine ops_nil (fin_next rfl (run_seq (run_region (ops_val (yld_field Tryz.runUnderlying38 rfl rfl rfl Tryz.sizeOf36) rfl ?_))))
     refine ops_val (yld_load 1 Tryz.isAgg36 rfl rfl rfl) rfl ?_
     refine ops_val (yld_move rfl) rfl (ops_val (yld_arith rfl rfl rfl (wrap64 (by omega) (by omega))) rfl ?_)
     refine ops_val (yld_eq (yld_sliceS (i := 0) (j := i + 2) (kl := .i64) (kh := .i64) Tryz.runUnderlying36 Tryz.sizeOf38 rfl rfl rfl (by omega) (by first | omega | (simp only [Con.cap]; omega))) (show _ = Value.slice (sad ad cap 0 5) (ps.take (i + 2)).length (cap - 0) by rw [List.length_take, Nat.min_eq_left (by omega)]; rfl)) rfl ?_
     refine ops_val (yld_struct strt38 rfl rfl) rfl ?_
     refine ops_call (atom_c (Con.pre (.mk k nm lo hi ad cap ps) (i + 2)) (Con.pre_ok hok _)) rfl (.refl _) (fun v _ h => ⟨Con.pre_mem hok h.1 _, h.2.1, trivial⟩) rfl fun _ => ?_
     refine ops_val (yld_assign rfl) rfl (ops_nil (fin_next rfl (run_seq ?_)))
     refine run_drawH [(b4, .cells p.cells.toArray 38 (0, 0)), (b1, .cells #[.int .i64 k, str nm, .int .i64 lo, .int .i64 hi, .slice ad ps.length cap] 38 (0, 0))] (by kernel_rfl) ?_
     refine any_sq 4 [0, 1, 2, 4] (by kernel_rfl) (fun _ a b => ⟨Vw.sat.sub a, b⟩) ?_
     refine sq_val rfl (yld_loadO (cs := [.pointer (some ⟨kb, 0, none⟩)]) Tryz.isAgg69 rfl (fun v _ h => h.2.2.1) rfl) rfl ?_
     refine sq_val rfl (yld_move rfl) rfl ?_
     refine sq_val rfl (yld_loadC 0 Tryz.isAgg38 Tryz.sizeOf38 rfl rfl) rfl ?_
     refine sq_val rfl (yld_move rfl) rfl ?_
     refine sq_nil ?_
     refine any_one 3 rfl (by kernel_rfl) ?_
     refine ops_call (atom_c p (Con.ok_part (c := (.mk k nm lo hi ad cap ps)) hok hpm)) rfl (.refl _) (fun v _ h => ⟨Con.mem_part (c := (.mk k nm lo hi ad cap ps)) h.1 hpm, h.2.1, trivial⟩) rfl fun _ => ?_
     refine ops_nil (fin_inv rfl (any_next (fun _ a b => ⟨Vw.sat.sub a, b⟩) ?_))
     refine any_sq 2 [5] (by kernel_rfl) (fun _ a b => ⟨Vw.sat.sub a, b⟩) ?_
     refine sq_val rfl (yld_struct strt31 rfl rfl) rfl ?_
     refine sq_nil ?_
     refine any_one 6 rfl (by kernel_rfl) ?_
     refine ops_slit Tryz.runUnderlying25 Tryz.sizeOf31 Tryz.zeroValue31 rfl rfl rfl rfl rfl rfl fun b5 => ?_
     refine ops_nil (fin_inv rfl (any_next (fun _ a b => ⟨Vw.sat.sub a.tail, b⟩) ?_))
     refine any_one 7 rfl (by kernel_rfl) ?_
     refine ops_call (add_c ⟨2, f, p.atom, (Con.pre (.mk k nm lo hi ad cap ps) (i + 2)).atom, [], [], [], 0, 0, 0⟩ frm l1 q2 hj.2.1 (by omega)) rfl (.cons _ (@List.perm_append_comm _ [_, _] _)) (fun _ _ _ => trivial) rfl fun x => ?_
     obtain ⟨q9, hq9⟩ := x
     refine ok_perm (@List.perm_append_comm _ _ [_, _]) ?_
     refine ops_nil (fin_inv rfl (any_next (fun _ a b => ⟨Vw.sat.sub a, b⟩) ?_))
     refine any_done (by kernel_rfl) ?_
     refine fin_next rfl (run_region (ops_val (yld_move rfl) rfl (ops_val (yld_assign rfl) rfl (ops_nil (fin_next rfl (run_region (ops_val (yld_arith rfl rfl rfl (wrap64 (by omega) (by omega))) rfl ?_)))))))
     refine ops_val (yld_move rfl) rfl (ops_nil (fin_inv rfl ?_))
     exact ok_again ⟨(i + 1, (Con.pre (.mk k nm lo hi ad cap ps) (i + 2)).atom, (ins frm l1 ⟨2, f, p.atom, (Con.pre (.mk k nm lo hi ad cap ps) (i + 2)).atom, [], [], [], 0, 0, 0⟩), q9), by omega, hq9, by have := ins_len frm l1 ⟨2, f, p.atom, (Con.pre (.mk k nm lo hi ad cap ps) (i + 2)).atom, [], [], [], 0, 0, 0⟩; dsimp only; omega, by rw [hj.2.2.2, Con.drop_at hp0]; simp only [Con.andP]; rw [show 1 + i + 1 = i + 2 by omega, show 1 + (i + 1) = i + 2 by omega]⟩ (by simp; omega) ⟨rfl, rfl, rfl, rfl, rfl, rfl, rfl, trivial⟩ (F := [_]) (@List.perm_append_comm _ [_] _) (fun _ _ h => h)
   ·
    replace hr4 := of_decide_eq_true hr4
    try dsimp only [Con.kind, Con.parts, Con.name, Con.lo, Con.hi, Con.cap, Con.ad] at hr4
    have hlt : i < ps.length := by omega
    obtain ⟨p, hp⟩ : ∃ p, ps[i]? = some p := ⟨_, List.getElem?_eq_getElem hlt⟩
    have hpm : p ∈ ps := List.mem_of_getElem? hp
    refine run_cond_t rfl (run_skip (fin_next rfl (run_seq (run_block (run_seq (run_region (ops_val (yld_indexR Tryz.runUnderlying36 Tryz.sizeOf38 rfl rfl (fun v _ h => row_adr (n := 5) Con.cells_len (by decide) (((Con.mem_iff (.mk k nm lo hi ad cap ps) v).1 h.1).1) hp) (by omega) (by first | omega | (simp only [Con.parts]; omega) | (simp [Con.parts]; done))) rfl ?_)))))))
    refine ops_val (yld_loadRS (ad := ad) (us := p.cells) Tryz.isAgg38 Tryz.sizeOf38 rfl (fun v _ h => ((Con.mem_iff (.mk k nm lo hi ad cap ps) v).1 h.1).1) (Con.cells_len _) (row_cells Con.cells_len hp)) rfl ?_
    refine ops_alloc Tryz.zeroValue38 rfl fun b6 => ?_
    refine ops_storeC 0 Tryz.sizeOf38 rfl rfl rfl rfl ?_
    refine ops_nil (fin_next rfl (run_region (ops_val (yld_loadO (cs := [lFn bs bk]) Tryz.isAgg79 rfl (fun v _ h => h.2.2.2.1) rfl) rfl ?_)))
    refine ops_val (yld_loadC 0 Tryz.isAgg38 Tryz.sizeOf38 rfl rfl) rfl ?_
    refine ops_calld (ih p (by have := Con.sz_part (c := (.mk k nm lo hi ad cap ps)) hpm; omega) (Con.ok_part (c := (.mk k nm lo hi ad cap ps)) hok hpm) (Con.fine_part (c := (.mk k nm lo hi ad cap ps)) hf hpm) (Con.leftP.lefts frm (ps.take i) l) q0 hk.2 (by have := Con.lefts_len frm ps i l; have := Con.sz_at hp; omega)) rfl rfl (@List.perm_append_comm _ [_, _] _) (fun v _ h => by exact ⟨Con.mem_part (c := (.mk k nm lo hi ad cap ps)) h.1 hpm, h.2⟩) rfl fun x => ?_
    obtain ⟨q10, hq10⟩ := x
    refine ok_perm (@List.perm_append_comm _ _ [_, _]) ?_
    refine ops_nil (fin_next rfl (run_region (ops_val (yld_arith rfl rfl rfl (wrap64 (by omega) (by omega))) rfl ?_)))
    refine ops_val (yld_move rfl) rfl (ops_nil (fin_inv rfl ?_))
    exact ok_again ⟨(i + 1, q10), hlt, by rw [Con.lefts_step frm hp]; exact hq10⟩ (by simp; omega) ⟨rfl, rfl, rfl, rfl, rfl, rfl, trivial⟩ (F := [_]) (@List.perm_append_comm _ [_] _) (fun _ _ h => h)

theorem right_c {kb bk bs : Nat} {frm : Int} : ∀ (d : Nat) (c : Con), c.sz ≤ d → c.ok → c.fine → ∀ (l : List Pc) (q : CS), CInv l q → l.length + 2 * c.sz ≤ 100000 →
  Tri Tryz.prog 95 #[c.val, .pointer (some ⟨bk, 0, none⟩), .pointer (some ⟨bs, 0, none⟩)] (collH kb frm q) [c.memF, tabs, kF bk kb, rF bs bk] (fun _ : {q' : CS // CInv (c.rightP frm l) q'} => .tuple #[]) (fun q' => collH kb frm q'.1) (fun _ => []) := by
 intro d
 induction d with
 | zero => intro c h; have := c.sz_pos; omega
 | succ d ih =>
  intro c hd hok hf l q hq hl
  have F := Con.fields hf
  have hle := F.le
  have hmo := F.mo
  obtain ⟨k, nm, lo, hi, ad, cap, ps⟩ := c
  have hlen := Con.ok_len hok
  have hsz : (Con.mk k nm lo hi ad cap ps).sz = 1 + Con.sz.szs ps := by simp only [Con.sz]
  have hsl := Con.szs_len ps
  simp only [Con.parts, Con.cap, Con.kind] at hlen hle hmo
  refine tri_of_body Tryz.func95 rfl rfl Tryz.ntmps95 rfl fun v0 => ?_
  refine run_seq (run_region (ops_box rfl rfl fun b1 => ?_))
  refine ops_nil (fin_next rfl (run_seq (run_region (ops_val (yld_field Tryz.runUnderlying38 rfl rfl rfl Tryz.sizeOf3) rfl ?_))))
  refine ops_val (yld_load 0 Tryz.isAgg3 rfl rfl rfl) rfl ?_
  refine ops_nil (fin_next rfl (run_block (run_seq (run_region (ops_valB (yld_eql rfl rfl) rfl fun r1 hr1 => ?_)))))
  refine ops_val (yld_assign rfl) rfl (ops_nil (fin_next rfl ?_))
  cases r1
  ·
   replace hr1 := ne_of_beq_false hr1
   try dsimp only [Con.kind, Con.parts, Con.name, Con.lo, Con.hi, Con.cap, Con.ad] at hr1
   refine run_cond_f rfl (run_seq (run_region (ops_valB (yld_eql rfl rfl) rfl fun r2 hr2 => ?_)))
   refine ops_val (yld_assign rfl) rfl (ops_nil (fin_next rfl ?_))
   cases r2
   ·
    replace hr2 := ne_of_beq_false hr2
    try dsimp only [Con.kind, Con.parts, Con.name, Con.lo, Con.hi, Con.cap, Con.ad] at hr2
    refine run_cond_f rfl (run_seq (run_region (ops_valB (yld_eql rfl rfl) rfl fun r3 hr3 => ?_)))
    refine ops_val (yld_assign rfl) rfl (ops_nil (fin_next rfl ?_))
    cases r3
    ·
     replace hr3 := ne_of_beq_false hr3
     try dsimp only [Con.kind, Con.parts, Con.name, Con.lo, Con.hi, Con.cap, Con.ad] at hr3
     refine run_cond_f rfl (run_skip (fin_end rfl ?_))
     exact end0 Tryz.results95 ⟨q, (by rw [Con.rightP0 (c := (.mk k nm lo hi ad cap ps)) (by assumption) (by assumption) (by assumption)]; exact hq)⟩ rfl (F := [_]) (@List.perm_append_comm _ [_] _) (fun _ _ _ => trivial)
    ·
     replace hr3 := eq_of_beq hr3
     try dsimp only [Con.kind, Con.parts, Con.name, Con.lo, Con.hi, Con.cap, Con.ad] at hr3
     refine run_cond_t rfl ?_
     refine run_drawH [(b1, .cells #[.int .i64 k, str nm, .int .i64 lo, .int .i64 hi, .slice ad ps.length cap] 38 (0, 0))] (by kernel_rfl) ?_
     refine any_sq 4 [0, 1, 3, 4, 5, 6, 7, 8] (by kernel_rfl) (fun _ a b => ⟨Vw.sat.sub a, b⟩) ?_
     refine sq_val rfl (yld_loadO (cs := [.pointer (some ⟨kb, 0, none⟩)]) Tryz.isAgg69 rfl (fun v _ h => h.2.2.1) rfl) rfl ?_
     refine sq_val rfl (yld_loadS 0 Tryz.isAgg38 Tryz.sizeOf38 rfl rfl rfl) rfl ?_
     refine sq_val rfl (yld_field Tryz.runUnderlying38 rfl rfl rfl Tryz.sizeOf9) rfl ?_
     refine sq_val rfl (yld_load 0 Tryz.isAgg9 rfl rfl rfl) rfl ?_
     refine sq_val rfl (yld_field Tryz.runUnderlying38 rfl rfl rfl Tryz.sizeOf3) rfl ?_
     refine sq_val rfl (yld_load 0 Tryz.isAgg3 rfl rfl rfl) rfl ?_
     refine sq_val rfl (yld_field Tryz.runUnderlying38 rfl rfl rfl Tryz.sizeOf3) rfl ?_
     refine sq_val rfl (yld_load 0 Tryz.isAgg3 rfl rfl rfl) rfl ?_
     refine sq_nil ?_
     refine any_one 2 rfl (by kernel_rfl) ?_
     refine ops_call (atom_c (.mk k nm lo hi ad cap ps) hok) rfl (.refl _) (fun v _ h => ⟨h.1, h.2.1, trivial⟩) rfl fun _ => ?_
     refine ops_nil (fin_inv rfl (any_next (fun _ a b => ⟨Vw.sat.sub a, b⟩) ?_))
     refine any_sq 2 [9] (by kernel_rfl) (fun _ a b => ⟨Vw.sat.sub a, b⟩) ?_
     refine sq_val rfl (yld_struct strt31 rfl rfl) rfl ?_
     refine sq_nil ?_
     refine any_one 10 rfl (by kernel_rfl) ?_
     refine ops_slit Tryz.runUnderlying25 Tryz.sizeOf31 Tryz.zeroValue31 rfl rfl rfl rfl rfl rfl fun b2 => ?_
     refine ops_nil (fin_inv rfl (any_next (fun _ a b => ⟨Vw.sat.sub a.tail, b⟩) ?_))
     refine any_one 11 rfl (by kernel_rfl) ?_
     refine ops_call (add_c ⟨8, Con.atom (.mk k nm lo hi ad cap ps), [], [], nm, [], [], lo, hi, 0⟩ frm l q hq (by omega)) rfl (.cons _ (@List.perm_append_comm _ [_] _)) (fun _ _ _ => trivial) rfl fun x => ?_
     obtain ⟨q2, hq2⟩ := x
     refine ok_perm (@List.perm_append_comm _ _ [_]) ?_
     refine ops_nil (fin_inv rfl (any_next (fun _ a b => ⟨Vw.sat.sub a, b⟩) ?_))
     refine any_done (by kernel_rfl) ?_
     refine fin_end rfl ?_
     exact end0 Tryz.results95 ⟨q2, (by rw [Con.rightP7 (c := (.mk k nm lo hi ad cap ps)) (by assumption)]; exact hq2)⟩ rfl (F := [_]) (@List.perm_append_comm _ [_] _) (fun _ _ _ => trivial)
   ·
    replace hr2 := eq_of_beq hr2
    try dsimp only [Con.kind, Con.parts, Con.name, Con.lo, Con.hi, Con.cap, Con.ad] at hr2
    rw [hr2] at hle hmo
    simp [nd, needL] at hle hmo
    obtain ⟨p, hps⟩ := List.length_eq_one_iff.1 (show ps.length = 1 by omega)
    have hp : ps[0]? = some p := by rw [hps]; rfl
    have hpm : p ∈ ps := List.mem_of_getElem? hp
    refine run_cond_t rfl (run_seq ?_)
    refine run_drawH [(b1, .cells #[.int .i64 k, str nm, .int .i64 lo, .int .i64 hi, .slice ad ps.length cap] 38 (0, 0))] (by kernel_rfl) ?_
    refine any_sq 5 [0, 1, 3, 4, 5, 6, 7, 8] (by kernel_rfl) (fun _ a b => ⟨Vw.sat.sub a, b⟩) ?_
    refine sq_val rfl (yld_loadO (cs := [.pointer (some ⟨kb, 0, none⟩)]) Tryz.isAgg69 rfl (fun v _ h => h.2.2.1) rfl) rfl ?_
    refine sq_val rfl (yld_loadS 0 Tryz.isAgg38 Tryz.sizeOf38 rfl rfl rfl) rfl ?_
    refine sq_val rfl (yld_field Tryz.runUnderlying38 rfl rfl rfl Tryz.sizeOf9) rfl ?_
    refine sq_val rfl (yld_load 0 Tryz.isAgg9 rfl rfl rfl) rfl ?_
    refine sq_val rfl (yld_field Tryz.runUnderlying38 rfl rfl rfl Tryz.sizeOf36) rfl ?_
    refine sq_val rfl (yld_load 0 Tryz.isAgg36 rfl rfl rfl) rfl ?_
    refine sq_val rfl (yld_indexR Tryz.runUnderlying36 Tryz.sizeOf38 rfl rfl (fun v _ h => row_adr (n := 5) Con.cells_len (by decide) (((Con.mem_iff (.mk k nm lo hi ad cap ps) v).1 h.1).1) hp) (by omega) (by first | omega | (simp only [Con.parts]; omega) | (simp [Con.parts]; done))) rfl ?_
    refine sq_val rfl (yld_loadRS (ad := ad) (us := p.cells) Tryz.isAgg38 Tryz.sizeOf38 rfl (fun v _ h => ((Con.mem_iff (.mk k nm lo hi ad cap ps) v).1 h.1).1) (Con.cells_len _) (row_cells Con.cells_len hp)) rfl ?_
    refine sq_nil ?_
    refine any_one 2 rfl (by kernel_rfl) ?_
    refine ops_call (atom_c (.mk k nm lo hi ad cap ps) hok) rfl (.refl _) (fun v _ h => ⟨h.1, h.2.1, trivial⟩) rfl fun _ => ?_
    refine ops_nil (fin_inv rfl (any_next (fun _ a b => ⟨Vw.sat.sub a, b⟩) ?_))
    refine any_one 9 rfl (by kernel_rfl) ?_
    refine ops_call (atom_c p (Con.ok_part (c := (.mk k nm lo hi ad cap ps)) hok hpm)) rfl (.refl _) (fun v _ h => ⟨Con.mem_part (c := (.mk k nm lo hi ad cap ps)) h.1 hpm, h.2.1, trivial⟩) rfl fun _ => ?_
    refine ops_nil (fin_inv rfl (any_next (fun _ a b => ⟨Vw.sat.sub a, b⟩) ?_))
    refine any_sq 2 [10] (by kernel_rfl) (fun _ a b => ⟨Vw.sat.sub a, b⟩) ?_
    refine sq_val rfl (yld_struct strt31 rfl rfl) rfl ?_
    refine sq_nil ?_
    refine any_one 11 rfl (by kernel_rfl) ?_
    refine ops_slit Tryz.runUnderlying25 Tryz.sizeOf31 Tryz.zeroValue31 rfl rfl rfl rfl rfl rfl fun b3 => ?_
    refine ops_nil (fin_inv rfl (any_next (fun _ a b => ⟨Vw.sat.sub a.tail, b⟩) ?_))
    refine any_one 12 rfl (by kernel_rfl) ?_
    refine ops_call (add_c ⟨3, Con.atom (.mk k nm lo hi ad cap ps), [], p.atom, nm, [], [], 0, 0, 0⟩ frm l q hq (by omega)) rfl (.cons _ (@List.perm_append_comm _ [_] _)) (fun _ _ _ => trivial) rfl fun x => ?_
    obtain ⟨q4, hq4⟩ := x
    refine ok_perm (@List.perm_append_comm _ _ [_]) ?_
    refine ops_nil (fin_inv rfl (any_next (fun _ a b => ⟨Vw.sat.sub a, b⟩) ?_))
    refine any_done (by kernel_rfl) ?_
    refine fin_next rfl ?_
    refine run_drawH [(b1, .cells #[.int .i64 k, str nm, .int .i64 lo, .int .i64 hi, .slice ad ps.length cap] 38 (0, 0))] (by kernel_rfl) ?_
    refine any_sq 1 [0, 1, 2, 3, 4] (by kernel_rfl) (fun _ a b => ⟨Vw.sat.sub a, b⟩) ?_
    refine sq_val rfl (yld_loadO (cs := [rFn bs bk]) Tryz.isAgg79 rfl (fun v _ h => h.2.2.2.1) rfl) rfl ?_
    refine sq_val rfl (yld_field Tryz.runUnderlying38 rfl rfl rfl Tryz.sizeOf36) rfl ?_
    refine sq_val rfl (yld_load 0 Tryz.isAgg36 rfl rfl rfl) rfl ?_
    refine sq_val rfl (yld_indexR Tryz.runUnderlying36 Tryz.sizeOf38 rfl rfl (fun v _ h => row_adr (n := 5) Con.cells_len (by decide) (((Con.mem_iff (.mk k nm lo hi ad cap ps) v).1 h.1).1) hp) (by omega) (by first | omega | (simp only [Con.parts]; omega) | (simp [Con.parts]; done))) rfl ?_
    refine sq_val rfl (yld_loadRS (ad := ad) (us := p.cells) Tryz.isAgg38 Tryz.sizeOf38 rfl (fun v _ h => ((Con.mem_iff (.mk k nm lo hi ad cap ps) v).1 h.1).1) (Con.cells_len _) (row_cells Con.cells_len hp)) rfl ?_
    refine sq_nil ?_
    refine any_one 5 rfl (by kernel_rfl) ?_
    refine ops_calld (ih p (by have := Con.sz_part (c := (.mk k nm lo hi ad cap ps)) hpm; omega) (Con.ok_part (c := (.mk k nm lo hi ad cap ps)) hok hpm) (Con.fine_part (c := (.mk k nm lo hi ad cap ps)) hf hpm) (ins frm l ⟨3, Con.atom (.mk k nm lo hi ad cap ps), [], p.atom, nm, [], [], 0, 0, 0⟩) q4 hq4 (by have := ins_len frm l ⟨3, Con.atom (.mk k nm lo hi ad cap ps), [], p.atom, nm, [], [], 0, 0, 0⟩; have := Con.sz_at hp; omega)) rfl rfl (@List.perm_append_comm _ [_] _) (fun v _ h => by exact ⟨Con.mem_part (c := (.mk k nm lo hi ad cap ps)) h.1 hpm, h.2⟩) rfl fun x => ?_
    obtain ⟨q7, hq7⟩ := x
    refine ok_perm (@List.perm_append_comm _ _ [_]) ?_
    refine ops_nil (fin_inv rfl (any_next (fun _ a b => ⟨Vw.sat.sub a, b⟩) ?_))
    refine any_done (by kernel_rfl) ?_
    refine fin_end rfl ?_
    exact end0 Tryz.results95 ⟨q7, (by rw [Con.rightP6 (c := (.mk k nm lo hi ad cap ps)) (p := p) (by assumption) hps]; exact hq7)⟩ rfl (F := [_]) (@List.perm_append_comm _ [_] _) (fun _ _ _ => trivial)
  ·
   replace hr1 := eq_of_beq hr1
   try dsimp only [Con.kind, Con.parts, Con.name, Con.lo, Con.hi, Con.cap, Con.ad] at hr1
   rw [hr1] at hle hmo
   simp [nd, needL] at hle hmo
   refine run_cond_t rfl (run_seq (run_region (ops_val (yld_field Tryz.runUnderlying38 rfl rfl rfl Tryz.sizeOf36) rfl ?_)))
   refine ops_val (yld_load 0 Tryz.isAgg36 rfl rfl rfl) rfl ?_
   refine ops_val (yld_lenS Tryz.runUnderlying36 rfl) rfl ?_
   refine ops_val (yld_move rfl) rfl (ops_nil (fin_next rfl (run_block (ok_fr [(1, .pointer (some ⟨bk, 0, none⟩)), (2, .pointer (some ⟨bs, 0, none⟩)), (3, .pointer (some ⟨b1, 0, none⟩)), (11, .slice ad ps.length cap), (12, .int .i64 (ps.length : Int)), (13, .int .i64 ((0 : Nat) : Int))] ⟨rfl, rfl, rfl, rfl, rfl, rfl, trivial⟩ ?_))))
   refine run_loop (ι := {x : Nat × CS // x.1 ≤ ps.length ∧ CInv (Con.rightP.rights frm (Con.atom (.mk k nm lo hi ad cap ps)) (ps.take x.1) l) x.2}) (fun x => [(1, .pointer (some ⟨bk, 0, none⟩)), (2, .pointer (some ⟨bs, 0, none⟩)), (3, .pointer (some ⟨b1, 0, none⟩)), (11, .slice ad ps.length cap), (12, .int .i64 (ps.length : Int)), (13, .int .i64 (x.1.1 : Int))]) (fun x => _ :: collH kb frm x.1.2) (fun _ => _) (fun x => ps.length - x.1.1) ⟨(0, q), by simp, by simpa [Con.rightP.rights] using hq⟩ ?_
   rintro ⟨⟨i, q0⟩, hk⟩
   dsimp only at hk
   refine ok_fr [(1, .pointer (some ⟨bk, 0, none⟩)), (2, .pointer (some ⟨bs, 0, none⟩)), (3, .pointer (some ⟨b1, 0, none⟩)), (11, .slice ad ps.length cap), (12, .int .i64 (ps.length : Int)), (13, .int .i64 (i : Int))] ⟨rfl, rfl, rfl, rfl, rfl, rfl, trivial⟩ ?_
   refine run_seq (run_region (ops_valB (yld_lss rfl rfl) rfl fun r4 hr4 => ?_))
   refine ops_nil (fin_next rfl (run_seq ?_))
   cases r4
   ·
    replace hr4 := of_decide_eq_false hr4
    try dsimp only [Con.kind, Con.parts, Con.name, Con.lo, Con.hi, Con.cap, Con.ad] at hr4
    obtain rfl : i = ps.length := by omega
    rw [List.take_length] at hk
    refine run_cond_f rfl (run_exit rfl (fin_end rfl ?_))
    exact end0 Tryz.results95 ⟨q0, (by rw [Con.rightP5 (c := (.mk k nm lo hi ad cap ps)) (by assumption)]; exact hk.2)⟩ rfl (F := [_]) (@List.perm_append_comm _ [_] _) (fun _ _ _ => trivial)
   ·
    replace hr4 := of_decide_eq_true hr4
    try dsimp only [Con.kind, Con.parts, Con.name, Con.lo, Con.hi, Con.cap, Con.ad] at hr4
    have hlt : i < ps.length := by omega
    obtain ⟨p, hp⟩ : ∃ p, ps[i]? = some p := ⟨_, List.getElem?_eq_getElem hlt⟩
    have hpm : p ∈ ps := List.mem_of_getElem? hp
    refine run_cond_t rfl (run_skip (fin_next rfl (run_seq (run_block (run_seq (run_region (ops_val (yld_indexR Tryz.runUnderlying36 Tryz.sizeOf38 rfl rfl (fun v _ h => row_adr (n := 5) Con.cells_len (by decide) (((Con.mem_iff (.mk k nm lo hi ad cap ps) v).1 h.1).1) hp) (by omega) (by first | omega | (simp only [Con.parts]; omega) | (simp [Con.parts]; done))) rfl ?_)))))))
    refine ops_val (yld_loadRS (ad := ad) (us := p.cells) Tryz.isAgg38 Tryz.sizeOf38 rfl (fun v _ h => ((Con.mem_iff (.mk k nm lo hi ad cap ps) v).1 h.1).1) (Con.cells_len _) (row_cells Con.cells_len hp)) rfl ?_
    refine ops_alloc Tryz.zeroValue38 rfl fun b4 => ?_
    refine ops_storeC 0 Tryz.sizeOf38 rfl rfl rfl rfl ?_
    refine ops_nil (fin_next rfl (run_seq ?_))
    refine run_drawH [(b4, .cells p.cells.toArray 38 (0, 0)), (b1, .cells #[.int .i64 k, str nm, .int .i64 lo, .int .i64 hi, .slice ad ps.length cap] 38 (0, 0))] (by kernel_rfl) ?_
    refine any_sq 5 [0, 1, 3] (by kernel_rfl) (fun _ a b => ⟨Vw.sat.sub a, b⟩) ?_
    refine sq_val rfl (yld_loadO (cs := [.pointer (some ⟨kb, 0, none⟩)]) Tryz.isAgg69 rfl (fun v _ h => h.2.2.1) rfl) rfl ?_
    refine sq_val rfl (yld_loadS 1 Tryz.isAgg38 Tryz.sizeOf38 rfl rfl rfl) rfl ?_
    refine sq_val rfl (yld_loadC 0 Tryz.isAgg38 Tryz.sizeOf38 rfl rfl) rfl ?_
    refine sq_nil ?_
    refine any_one 2 rfl (by kernel_rfl) ?_
    refine ops_call (atom_c (.mk k nm lo hi ad cap ps) hok) rfl (.refl _) (fun v _ h => ⟨h.1, h.2.1, trivial⟩) rfl fun _ => ?_
    refine ops_nil (fin_inv rfl (any_next (fun _ a b => ⟨Vw.sat.sub a, b⟩) ?_))
    refine any_one 4 rfl (by kernel_rfl) ?_
    refine ops_call (atom_c p (Con.ok_part (c := (.mk k nm lo hi ad cap ps)) hok hpm)) rfl (.refl _) (fun v _ h => ⟨Con.mem_part (c := (.mk k nm lo hi ad cap ps)) h.1 hpm, h.2.1, trivial⟩) rfl fun _ => ?_
    refine ops_nil (fin_inv rfl (any_next (fun _ a b => ⟨Vw.sat.sub a, b⟩) ?_))
    refine any_sq 2 [5] (by kernel_rfl) (fun _ a b => ⟨Vw.sat.sub a, b⟩) ?_
    refine sq_val rfl (yld_struct strt31 rfl rfl) rfl ?_
    refine sq_nil ?_
    refine any_one 6 rfl (by kernel_rfl) ?_
    refine ops_slit Tryz.runUnderlying25 Tryz.sizeOf31 Tryz.zeroValue31 rfl rfl rfl rfl rfl rfl fun b5 => ?_
    refine ops_nil (fin_inv rfl (any_next (fun _ a b => ⟨Vw.sat.sub a.tail, b⟩) ?_))
    refine any_one 7 rfl (by kernel_rfl) ?_
    refine ops_call (add_c ⟨1, Con.atom (.mk k nm lo hi ad cap ps), [], p.atom, [], [], [], 0, 0, 0⟩ frm (Con.rightP.rights frm (Con.atom (.mk k nm lo hi ad cap ps)) (ps.take i) l) q0 hk.2 (by have := Con.rights_len frm (Con.atom (.mk k nm lo hi ad cap ps)) ps i l; have := Con.sz_at hp; have := p.sz_pos; omega)) rfl (.cons _ (@List.perm_append_comm _ [_, _] _)) (fun _ _ _ => trivial) rfl fun x => ?_
    obtain ⟨q9, hq9⟩ := x
    refine ok_perm (@List.perm_append_comm _ _ [_, _]) ?_
    refine ops_nil (fin_inv rfl (any_next (fun _ a b => ⟨Vw.sat.sub a, b⟩) ?_))
    refine any_done (by kernel_rfl) ?_
    refine fin_next rfl (run_region (ops_val (yld_loadO (cs := [rFn bs bk]) Tryz.isAgg79 rfl (fun v _ h => h.2.2.2.1) rfl) rfl ?_))
    refine ops_val (yld_loadC 0 Tryz.isAgg38 Tryz.sizeOf38 rfl rfl) rfl ?_
    refine ops_calld (ih p (by have := Con.sz_part (c := (.mk k nm lo hi ad cap ps)) hpm; omega) (Con.ok_part (c := (.mk k nm lo hi ad cap ps)) hok hpm) (Con.fine_part (c := (.mk k nm lo hi ad cap ps)) hf hpm) (ins frm (Con.rightP.rights frm (Con.atom (.mk k nm lo hi ad cap ps)) (ps.take i) l) ⟨1, Con.atom (.mk k nm lo hi ad cap ps), [], p.atom, [], [], [], 0, 0, 0⟩) q9 hq9 (by have := Con.rights_len frm (Con.atom (.mk k nm lo hi ad cap ps)) ps i l; have := Con.sz_at hp; have := ins_len frm (Con.rightP.rights frm (Con.atom (.mk k nm lo hi ad cap ps)) (ps.take i) l) ⟨1, (Con.atom (.mk k nm lo hi ad cap ps)), [], p.atom, [], [], [], 0, 0, 0⟩; omega)) rfl rfl (@List.perm_append_comm _ [_, _] _) (fun v _ h => by exact ⟨Con.mem_part (c := (.mk k nm lo hi ad cap ps)) h.1 hpm, h.2⟩) rfl fun x => ?_
    obtain ⟨q10, hq10⟩ := x
    refine ok_perm (@List.perm_append_comm _ _ [_, _]) ?_
    refine ops_nil (fin_next rfl (run_region (ops_val (yld_arith rfl rfl rfl (wrap64 (by omega) (by omega))) rfl ?_)))
    refine ops_val (yld_move rfl) rfl (ops_nil (fin_inv rfl ?_))
    exact ok_again ⟨(i + 1, q10), hlt, by rw [Con.rights_step frm _ hp]; exact hq10⟩ (by simp; omega) ⟨rfl, rfl, rfl, rfl, rfl, rfl, trivial⟩ (F := [_]) (@List.perm_append_comm _ [_] _) (fun _ _ h => h)

end Go.Proofs.YtoafjmalfclpoaaGreatDoor

/-
  My own contracts.
-/
namespace Go.Proofs.YtoafjmalfclpoaaGreatDoor
open Go Go.Sx Go.Proofs
set_option linter.unusedVariables false
attribute [local irreducible] Code.wp wpList wpAnyH

open Go.Vs
theorem axiom_c (x : Ax) (hok : x.ok) (hc : x.check = 0) {kb : Nat} (frm : Int) (q : CS) (hq : CInv [] q) :
  Tri Tryz.prog 40 #[.pointer (some ⟨kb, 0, none⟩), x.val] (collH kb frm q) [x.memF, tabs] (fun _ : {q' : CS // CInv (x.pieces frm) q'} => .tuple #[]) (fun q' => collH kb frm q'.1) (fun _ => []) := by
 have G := Ax.good_of hc
 obtain ⟨k, op, ⟨kl, nl, ll, hl, al, cl, pl⟩, ⟨kr, nr, lr, hr, ar, cr, pr⟩, ad, cap, rs, ro, a, b⟩ := x
 have hlen := hok.len
 have hcap := hok.cap
 have h1 := G.k1
 have h9 := G.k9
 have h0 : ([] : List Pc).length = 0 := rfl
 dsimp only at hlen hcap h1 h9
 show Tri Tryz.prog 40 #[.pointer (some ⟨kb, 0, none⟩), .agg #[.int .i64 k, .bool op, .int .i64 kl, str nl, .int .i64 ll, .int .i64 hl, .slice al pl.length cl, .int .i64 kr, str nr, .int .i64 lr, .int .i64 hr, .slice ar pr.length cr, .slice ad rs.length cap, str ro, str a, str b]] _ _ _ _ _
 refine tri_of_body Tryz.func40 rfl rfl Tryz.ntmps40 rfl fun v0 => ?_
 refine run_seq (run_region (ops_box rfl rfl fun b1 => ?_))
 refine ops_nil (fin_next rfl (run_seq (run_region (ops_val (yld_move rfl) rfl (ops_call (sides_c kb) rfl (.refl _) (fun _ _ _ => trivial) rfl fun x => ?_)))))
 obtain ⟨bk, bl, br⟩ := x
 refine ops_val (yld_move rfl) rfl (ops_val (yld_extract rfl rfl) rfl ?_)
 refine ops_val (yld_extract rfl rfl) rfl ?_
 refine ops_val (yld_assign rfl) rfl (ops_val (yld_assign rfl) rfl (ops_nil (fin_next rfl (run_seq (run_region (ops_val (yld_field Tryz.runUnderlying41 rfl rfl rfl Tryz.sizeOf3) rfl ?_))))))
 refine ops_val (yld_load 0 Tryz.isAgg3 rfl rfl rfl) rfl ?_
 refine ops_nil (fin_next rfl (run_block (run_seq (run_region (ops_valB (yld_eql rfl rfl) rfl fun r1 hr1 => ?_)))))
 refine ops_val (yld_assign rfl) rfl (ops_nil (fin_next rfl ?_))
 cases r1
 ·
  replace hr1 := ne_of_beq_false hr1
  try dsimp only [Con.kind, Con.parts, Con.name, Con.lo, Con.hi, Con.cap, Con.ad] at hr1
  refine run_cond_f rfl (run_seq (run_region (ops_valB (yld_eql rfl rfl) rfl fun r2 hr2 => ?_)))
  refine ops_val (yld_assign rfl) rfl (ops_nil (fin_next rfl ?_))
  cases r2
  ·
   replace hr2 := ne_of_beq_false hr2
   try dsimp only [Con.kind, Con.parts, Con.name, Con.lo, Con.hi, Con.cap, Con.ad] at hr2
   refine run_cond_f rfl (run_seq (run_region (ops_valB (yld_eql rfl rfl) rfl fun r3 hr3 => ?_)))
   refine ops_val (yld_assign rfl) rfl (ops_nil (fin_next rfl ?_))
   cases r3
   ·
    replace hr3 := ne_of_beq_false hr3
    try dsimp only [Con.kind, Con.parts, Con.name, Con.lo, Con.hi, Con.cap, Con.ad] at hr3
    refine run_cond_f rfl (run_seq (run_region (ops_valB (yld_eql rfl rfl) rfl fun r4 hr4 => ?_)))
    refine ops_val (yld_assign rfl) rfl (ops_nil (fin_next rfl ?_))
    cases r4
    ·
     replace hr4 := ne_of_beq_false hr4
     try dsimp only [Con.kind, Con.parts, Con.name, Con.lo, Con.hi, Con.cap, Con.ad] at hr4
     refine run_cond_f rfl (run_seq (run_region (ops_valB (yld_eql rfl rfl) rfl fun r5 hr5 => ?_)))
     refine ops_val (yld_assign rfl) rfl (ops_nil (fin_next rfl ?_))
     cases r5
     ·
      replace hr5 := ne_of_beq_false hr5
      try dsimp only [Con.kind, Con.parts, Con.name, Con.lo, Con.hi, Con.cap, Con.ad] at hr5
      refine run_cond_f rfl (run_seq (run_region (ops_valB (yld_eql rfl rfl) rfl fun r6 hr6 => ?_)))
      refine ops_val (yld_assign rfl) rfl (ops_nil (fin_next rfl ?_))
      cases r6
      ·
       replace hr6 := ne_of_beq_false hr6
       try dsimp only [Con.kind, Con.parts, Con.name, Con.lo, Con.hi, Con.cap, Con.ad] at hr6
       refine run_cond_f rfl (run_seq (run_region (ops_valB (yld_eql rfl rfl) rfl fun r7 hr7 => ?_)))
       refine ops_val (yld_assign rfl) rfl (ops_nil (fin_next rfl ?_))
       cases r7
       ·
        replace hr7 := ne_of_beq_false hr7
        try dsimp only [Con.kind, Con.parts, Con.name, Con.lo, Con.hi, Con.cap, Con.ad] at hr7
        refine run_cond_f rfl (run_seq (run_region (ops_valB (yld_eql rfl rfl) rfl fun r8 hr8 => ?_)))
        refine ops_val (yld_assign rfl) rfl (ops_nil (fin_next rfl ?_))
        cases r8
        ·
         replace hr8 := ne_of_beq_false hr8
         try dsimp only [Con.kind, Con.parts, Con.name, Con.lo, Con.hi, Con.cap, Con.ad] at hr8
         refine run_cond_f rfl (run_seq (run_region (ops_valB (yld_eql rfl rfl) rfl fun r9 hr9 => ?_)))
         refine ops_val (yld_assign rfl) rfl (ops_nil (fin_next rfl ?_))
         cases r9
         ·
          replace hr9 := ne_of_beq_false hr9
          try dsimp only [Con.kind, Con.parts, Con.name, Con.lo, Con.hi, Con.cap, Con.ad] at hr9
          exfalso; omega
         ·
          replace hr9 := eq_of_beq hr9
          try dsimp only [Con.kind, Con.parts, Con.name, Con.lo, Con.hi, Con.cap, Con.ad] at hr9
          refine run_cond_t rfl ?_
          refine run_drawH [(b1, .cells #[.int .i64 k, .bool op, .int .i64 kl, str nl, .int .i64 ll, .int .i64 hl, .slice al pl.length cl, .int .i64 kr, str nr, .int .i64 lr, .int .i64 hr, .slice ar pr.length cr, .slice ad rs.length cap, str ro, str a, str b] 41 (0, 0))] (by kernel_rfl) ?_
          refine any_sq 5 [0, 1, 2, 4, 5, 6, 7] (by kernel_rfl) (fun _ a b => ⟨Vw.sat.sub a, b⟩) ?_
          refine sq_val rfl (yld_move rfl) rfl ?_
          refine sq_val rfl (yld_field Tryz.runUnderlying41 rfl rfl rfl Tryz.sizeOf9) rfl ?_
          refine sq_val rfl (yld_load 0 Tryz.isAgg9 rfl rfl rfl) rfl ?_
          refine sq_val rfl (yld_field Tryz.runUnderlying41 rfl rfl rfl Tryz.sizeOf9) rfl ?_
          refine sq_val rfl (yld_load 0 Tryz.isAgg9 rfl rfl rfl) rfl ?_
          refine sq_val rfl (yld_field Tryz.runUnderlying41 rfl rfl rfl Tryz.sizeOf9) rfl ?_
          refine sq_val rfl (yld_load 0 Tryz.isAgg9 rfl rfl rfl) rfl ?_
          refine sq_nil ?_
          refine any_one 3 rfl (by kernel_rfl) ?_
          refine ops_call (individual_c a hok.a) rfl (.refl _) (fun _ _ _ => trivial) rfl fun _ => ?_
          refine ops_nil (fin_inv rfl (any_next (fun _ a b => ⟨Vw.sat.sub a, b⟩) ?_))
          refine any_one 8 rfl (by kernel_rfl) ?_
          refine ops_call (individual_c b hok.b) rfl (.refl _) (fun _ _ _ => trivial) rfl fun _ => ?_
          refine ops_nil (fin_inv rfl (any_next (fun _ a b => ⟨Vw.sat.sub a, b⟩) ?_))
          refine any_sq 2 [9] (by kernel_rfl) (fun _ a b => ⟨Vw.sat.sub a, b⟩) ?_
          refine sq_val rfl (yld_struct strt31 rfl rfl) rfl ?_
          refine sq_nil ?_
          refine any_one 10 rfl (by kernel_rfl) ?_
          refine ops_slit Tryz.runUnderlying25 Tryz.sizeOf31 Tryz.zeroValue31 rfl rfl rfl rfl rfl rfl fun b2 => ?_
          refine ops_nil (fin_inv rfl (any_next (fun _ a b => ⟨Vw.sat.sub a.tail, b⟩) ?_))
          refine any_one 11 rfl (by kernel_rfl) ?_
          refine ops_call (add_c ⟨3, ([123] ++ a ++ [125]), [], ([123] ++ b ++ [125]), ro, [], [], 0, 0, 0⟩ frm [] q hq (by omega)) rfl (.cons _ (@List.perm_append_comm _ [_] _)) (fun _ _ _ => trivial) rfl fun x => ?_
          obtain ⟨q2, hq2⟩ := x
          have hb2 := ins_len frm [] ⟨3, ([123] ++ a ++ [125]), [], ([123] ++ b ++ [125]), ro, [], [], 0, 0, 0⟩
          refine ok_perm (@List.perm_append_comm _ _ [_]) ?_
          refine ops_nil (fin_inv rfl (any_next (fun _ a b => ⟨Vw.sat.sub a, b⟩) ?_))
          refine any_done (by kernel_rfl) ?_
          refine fin_end rfl ?_
          have e : Ax.pieces frm ⟨k, op, (.mk kl nl ll hl al cl pl), (.mk kr nr lr hr ar cr pr), ad, cap, rs, ro, a, b⟩ = (ins frm [] ⟨3, ([123] ++ a ++ [125]), [], ([123] ++ b ++ [125]), ro, [], [], 0, 0, 0⟩) := by
           unfold Ax.pieces
           dsimp only
           repeat (first | rfl | (rw [if_pos (by omega)]) | (rw [if_neg (by omega)]))
          exact end0 Tryz.results40 ⟨q2, by rw [e]; exact hq2⟩ rfl (F := [_]) (@List.perm_append_comm _ [_] _) (fun _ _ _ => trivial)
        ·
         replace hr8 := eq_of_beq hr8
         try dsimp only [Con.kind, Con.parts, Con.name, Con.lo, Con.hi, Con.cap, Con.ad] at hr8
         obtain ⟨fr, zr⟩ := Con.check_zero (G.right (by show k ≤ 4 ∨ k = 8; omega))
         dsimp only at fr zr
         refine run_cond_t rfl (run_seq (run_region (ops_val (yld_move rfl) rfl (ops_val (yld_field Tryz.runUnderlying41 rfl rfl rfl Tryz.sizeOf38) rfl ?_))))
         refine ops_val (yld_loadS 0 Tryz.isAgg38 Tryz.sizeOf38 rfl rfl rfl) rfl ?_
         refine ops_calld (right_c (kb := kb) (bk := bk) (bs := br) _ (.mk kr nr lr hr ar cr pr) (Nat.le_refl _) hok.right fr [] q hq (by omega)) rfl rfl (@List.perm_append_comm _ [_] _) (fun v _ h => by exact ⟨h.2.2.2.1.2.1, h.2.2.2.2.1, h.1, h.2.2.1, trivial⟩) rfl fun x => ?_
         obtain ⟨q3, hq3⟩ := x
         have hb3 := Con.rightP_len frm _ (.mk kr nr lr hr ar cr pr) (Nat.le_refl _) []
         refine ok_perm (@List.perm_append_comm _ _ [_]) ?_
         refine ops_nil (fin_next rfl ?_)
         refine run_drawH [(b1, .cells #[.int .i64 k, .bool op, .int .i64 kl, str nl, .int .i64 ll, .int .i64 hl, .slice al pl.length cl, .int .i64 kr, str nr, .int .i64 lr, .int .i64 hr, .slice ar pr.length cr, .slice ad rs.length cap, str ro, str a, str b] 41 (0, 0))] (by kernel_rfl) ?_
         refine any_sq 5 [0, 1, 2, 4, 5] (by kernel_rfl) (fun _ a b => ⟨Vw.sat.sub a, b⟩) ?_
         refine sq_val rfl (yld_move rfl) rfl ?_
         refine sq_val rfl (yld_field Tryz.runUnderlying41 rfl rfl rfl Tryz.sizeOf9) rfl ?_
         refine sq_val rfl (yld_load 0 Tryz.isAgg9 rfl rfl rfl) rfl ?_
         refine sq_val rfl (yld_field Tryz.runUnderlying41 rfl rfl rfl Tryz.sizeOf38) rfl ?_
         refine sq_val rfl (yld_loadS 0 Tryz.isAgg38 Tryz.sizeOf38 rfl rfl rfl) rfl ?_
         refine sq_nil ?_
         refine any_one 3 rfl (by kernel_rfl) ?_
         refine ops_call (individual_c a hok.a) rfl (.refl _) (fun _ _ _ => trivial) rfl fun _ => ?_
         refine ops_nil (fin_inv rfl (any_next (fun _ a b => ⟨Vw.sat.sub a, b⟩) ?_))
         refine any_one 6 rfl (by kernel_rfl) ?_
         refine ops_call (atom_c (.mk kr nr lr hr ar cr pr) hok.right) rfl (.refl _) (fun v _ h => ⟨h.2.2.2.1.2.1, h.2.2.2.2.1, trivial⟩) rfl fun _ => ?_
         refine ops_nil (fin_inv rfl (any_next (fun _ a b => ⟨Vw.sat.sub a, b⟩) ?_))
         refine any_sq 2 [7] (by kernel_rfl) (fun _ a b => ⟨Vw.sat.sub a, b⟩) ?_
         refine sq_val rfl (yld_struct strt31 rfl rfl) rfl ?_
         refine sq_nil ?_
         refine any_one 8 rfl (by kernel_rfl) ?_
         refine ops_slit Tryz.runUnderlying25 Tryz.sizeOf31 Tryz.zeroValue31 rfl rfl rfl rfl rfl rfl fun b3 => ?_
         refine ops_nil (fin_inv rfl (any_next (fun _ a b => ⟨Vw.sat.sub a.tail, b⟩) ?_))
         refine any_one 9 rfl (by kernel_rfl) ?_
         refine ops_call (add_c ⟨1, ([123] ++ a ++ [125]), [], (Con.atom (.mk kr nr lr hr ar cr pr)), [], [], [], 0, 0, 0⟩ frm (Con.rightP frm (.mk kr nr lr hr ar cr pr) []) q3 hq3 (by omega)) rfl (.cons _ (@List.perm_append_comm _ [_] _)) (fun _ _ _ => trivial) rfl fun x => ?_
         obtain ⟨q5, hq5⟩ := x
         have hb5 := ins_len frm (Con.rightP frm (.mk kr nr lr hr ar cr pr) []) ⟨1, ([123] ++ a ++ [125]), [], (Con.atom (.mk kr nr lr hr ar cr pr)), [], [], [], 0, 0, 0⟩
         refine ok_perm (@List.perm_append_comm _ _ [_]) ?_
         refine ops_nil (fin_inv rfl (any_next (fun _ a b => ⟨Vw.sat.sub a, b⟩) ?_))
         refine any_done (by kernel_rfl) ?_
         refine fin_end rfl ?_
         have e : Ax.pieces frm ⟨k, op, (.mk kl nl ll hl al cl pl), (.mk kr nr lr hr ar cr pr), ad, cap, rs, ro, a, b⟩ = (ins frm (Con.rightP frm (.mk kr nr lr hr ar cr pr) []) ⟨1, ([123] ++ a ++ [125]), [], (Con.atom (.mk kr nr lr hr ar cr pr)), [], [], [], 0, 0, 0⟩) := by
          unfold Ax.pieces
          dsimp only
          repeat (first | rfl | (rw [if_pos (by omega)]) | (rw [if_neg (by omega)]))
         exact end0 Tryz.results40 ⟨q5, by rw [e]; exact hq5⟩ rfl (F := [_]) (@List.perm_append_comm _ [_] _) (fun _ _ _ => trivial)
       ·
        replace hr7 := eq_of_beq hr7
        try dsimp only [Con.kind, Con.parts, Con.name, Con.lo, Con.hi, Con.cap, Con.ad] at hr7
        refine run_cond_t rfl (run_region (ops_val (yld_move rfl) rfl (ops_val (yld_field Tryz.runUnderlying41 rfl rfl rfl Tryz.sizeOf9) rfl ?_)))
        refine ops_val (yld_load 0 Tryz.isAgg9 rfl rfl rfl) rfl ?_
        refine ops_val (yld_struct strt31 rfl rfl) rfl ?_
        refine ops_slit Tryz.runUnderlying25 Tryz.sizeOf31 Tryz.zeroValue31 rfl rfl rfl rfl rfl rfl fun b4 => ?_
        refine ops_call (add_c ⟨7, [], [], [], ro, [], [], 0, 0, 0⟩ frm [] q hq (by omega)) rfl (.cons _ (@List.perm_append_comm _ [_] _)) (fun _ _ _ => trivial) rfl fun x => ?_
        obtain ⟨q6, hq6⟩ := x
        have hb6 := ins_len frm [] ⟨7, [], [], [], ro, [], [], 0, 0, 0⟩
        refine ok_perm (@List.perm_append_comm _ _ [_]) ?_
        refine ops_nil (fin_end rfl ?_)
        have e : Ax.pieces frm ⟨k, op, (.mk kl nl ll hl al cl pl), (.mk kr nr lr hr ar cr pr), ad, cap, rs, ro, a, b⟩ = (ins frm [] ⟨7, [], [], [], ro, [], [], 0, 0, 0⟩) := by
         unfold Ax.pieces
         dsimp only
         repeat (first | rfl | (rw [if_pos (by omega)]) | (rw [if_neg (by omega)]))
        exact end0 Tryz.results40 ⟨q6, by rw [e]; exact hq6⟩ rfl (F := [_]) (@List.perm_append_comm _ [_] _) (fun _ _ _ => trivial)
      ·
       replace hr6 := eq_of_beq hr6
       try dsimp only [Con.kind, Con.parts, Con.name, Con.lo, Con.hi, Con.cap, Con.ad] at hr6
       have hch := G.chain hr6
       dsimp only at hch
       have hn0 : 0 < rs.length := by omega
       obtain ⟨r0, hr0⟩ : ∃ r0, rs[0]? = some r0 := ⟨_, List.getElem?_eq_getElem hn0⟩
       refine run_cond_t rfl (run_seq (run_region (ops_val (yld_field Tryz.runUnderlying41 rfl rfl rfl Tryz.sizeOf39) rfl ?_)))
       refine ops_val (yld_load 0 Tryz.isAgg39 rfl rfl rfl) rfl ?_
       refine ops_val (yld_indexR Tryz.runUnderlying39 Tryz.sizeOf9 rfl rfl (fun v _ h => row_adr (n := 1) strC_len (by decide) (h.2.2.2.1.2.2) hr0) (by omega) (by first | omega | (simp only [Con.parts]; omega) | (simp [Con.parts]; done))) rfl ?_
       refine ops_val (yld_loadR (ad := ad) Tryz.isAgg9 rfl (fun v _ h => h.2.2.2.1.2.2) (row_cells strC_len hr0 0 _ rfl)) rfl ?_
       refine ops_val (yld_assign rfl) rfl (ops_nil (fin_next rfl (run_seq (run_region (ops_val (yld_field Tryz.runUnderlying41 rfl rfl rfl Tryz.sizeOf39) rfl ?_)))))
       refine ops_val (yld_load 0 Tryz.isAgg39 rfl rfl rfl) rfl ?_
       refine ops_val (yld_sliceS (i := 1) (j := rs.length) (kl := .i64) (kh := .i64) Tryz.runUnderlying39 Tryz.sizeOf9 rfl rfl rfl (by omega) (by omega)) rfl ?_
       refine ops_val (yld_lenS Tryz.runUnderlying39 rfl) rfl ?_
       refine ops_val (yld_move rfl) rfl (ops_nil (fin_next rfl (run_block (ok_fr [(0, .pointer (some ⟨kb, 0, none⟩)), (3, .pointer (some ⟨b1, 0, none⟩)), (6, str r0), (130, .slice (sad ad cap 1 1) (rs.length - 1) (cap - 1)), (131, .int .i64 ((rs.length - 1 : Nat) : Int)), (132, .int .i64 ((0 : Nat) : Int))] ⟨rfl, rfl, rfl, rfl, rfl, rfl, trivial⟩ ?_))))
       have hr24 := Con.plain_len (G.roles r0 (List.mem_of_getElem? hr0))
       refine run_loop (ι := {x : Nat × Str × List Pc × CS // x.1 ≤ rs.length - 1 ∧ CInv x.2.2.1 x.2.2.2 ∧ x.2.2.1.length ≤ x.1 ∧ x.2.1.length ≤ 30 * (x.1 + 1) ∧ Ax.chainP frm ro (rs.drop 1) r0 [] = Ax.chainP frm ro (rs.drop (1 + x.1)) x.2.1 x.2.2.1}) (fun x => [(0, .pointer (some ⟨kb, 0, none⟩)), (3, .pointer (some ⟨b1, 0, none⟩)), (6, str x.1.2.1), (130, .slice (sad ad cap 1 1) (rs.length - 1) (cap - 1)), (131, .int .i64 ((rs.length - 1 : Nat) : Int)), (132, .int .i64 (x.1.1 : Int))]) (fun x => _ :: collH kb frm x.1.2.2.2) (fun _ => _) (fun x => rs.length - 1 - x.1.1) ⟨(0, r0, [], q), by simp, hq, by simp, by simp; omega, rfl⟩ ?_
       rintro ⟨⟨i, f, l1, q2⟩, hj⟩
       dsimp only at hj
       refine ok_fr [(0, .pointer (some ⟨kb, 0, none⟩)), (3, .pointer (some ⟨b1, 0, none⟩)), (6, str f), (130, .slice (sad ad cap 1 1) (rs.length - 1) (cap - 1)), (131, .int .i64 ((rs.length - 1 : Nat) : Int)), (132, .int .i64 (i : Int))] ⟨rfl, rfl, rfl, rfl, rfl, rfl, trivial⟩ ?_
       refine run_seq (run_region (ops_valB (yld_lss rfl rfl) rfl fun r10 hr10 => ?_))
       refine ops_nil (fin_next rfl (run_seq ?_))
       cases r10
       ·
        replace hr10 := of_decide_eq_false hr10
        try dsimp only [Con.kind, Con.parts, Con.name, Con.lo, Con.hi, Con.cap, Con.ad] at hr10
        refine run_cond_f rfl (run_exit rfl (fin_end rfl ?_))
        have e : Ax.pieces frm ⟨k, op, (.mk kl nl ll hl al cl pl), (.mk kr nr lr hr ar cr pr), ad, cap, rs, ro, a, b⟩ = Ax.chainP frm ro (rs.drop 1) r0 [] := by
         unfold Ax.pieces
         dsimp only
         rw [headD_of hr0]
         repeat (first | rfl | (rw [if_pos (by omega)]) | (rw [if_neg (by omega)]))
        have e2 := hj.2.2.2.2
        rw [List.drop_of_length_le (show rs.length ≤ 1 + i by omega)] at e2
        rw [e2] at e
        exact end0 Tryz.results40 ⟨q2, by rw [e]; exact hj.2.1⟩ rfl (F := [_]) (@List.perm_append_comm _ [_] _) (fun _ _ _ => trivial)
       ·
        replace hr10 := of_decide_eq_true hr10
        try dsimp only [Con.kind, Con.parts, Con.name, Con.lo, Con.hi, Con.cap, Con.ad] at hr10
        have hlt : i < rs.length - 1 := by omega
        obtain ⟨g, hp⟩ : ∃ g, (rs.drop 1)[i]? = some g := ⟨_, List.getElem?_eq_getElem (by simp; omega)⟩
        have hp1 : rs[1 + i]? = some g := by rw [← List.getElem?_drop]; exact hp
        have hg := Con.plain_len (G.roles g (List.mem_of_getElem? hp1))
        have hro := Con.plain_len (G.role (by show k = 4 ∨ k = 5 ∨ k = 6 ∨ k = 7 ∨ k = 9; omega))
        dsimp only at hro
        refine run_cond_t rfl (run_skip (fin_next rfl (run_seq (run_block (run_seq (run_region (ops_val (yld_move rfl) rfl ?_)))))))
        refine ops_val (yld_indexR Tryz.runUnderlying39 Tryz.sizeOf9 rfl rfl (fun v _ h => row_adr (n := 1) strC_len (by decide) (RowAt.rest strC_len h.2.2.2.1.2.2 hok.len 1) hp) (by omega) (by first | omega | (simp only [Con.parts]; omega) | (simp [Con.parts]; done))) rfl ?_
        refine ops_val (yld_loadR (ad := (sad ad cap 1 1)) Tryz.isAgg9 rfl (fun v _ h => RowAt.rest strC_len h.2.2.2.1.2.2 hok.len 1) (row_cells strC_len hp 0 _ rfl)) rfl ?_
        refine ops_val (yld_assign rfl) rfl (ops_val (yld_assign rfl) rfl (ops_nil (fin_next rfl (run_seq (run_region (ops_val (yld_field Tryz.runUnderlying41 rfl rfl rfl Tryz.sizeOf9) rfl ?_))))))
        refine ops_val (yld_load 0 Tryz.isAgg9 rfl rfl rfl) rfl ?_
        refine ops_val (yld_assign rfl) rfl (ops_nil (fin_next rfl (run_seq (run_seq (run_region (ops_val (yld_move rfl) rfl (ops_val (yld_arith rfl rfl rfl (wrap64 (by omega) (by omega))) rfl ?_)))))))
        refine ops_val (yld_field Tryz.runUnderlying41 rfl rfl rfl Tryz.sizeOf39) rfl ?_
        refine ops_val (yld_load 0 Tryz.isAgg39 rfl rfl rfl) rfl ?_
        refine ops_val (yld_lenS Tryz.runUnderlying39 rfl) rfl ?_
        refine ops_valB (yld_lss rfl rfl) rfl fun r11 hr11 => ?_
        refine ops_nil (fin_next rfl ?_)
        cases r11
        ·
         replace hr11 := of_decide_eq_false hr11
         try dsimp only [Con.kind, Con.parts, Con.name, Con.lo, Con.hi, Con.cap, Con.ad] at hr11
         refine run_cond_f rfl (run_skip (fin_next rfl (run_seq (run_region (ops_val (yld_move rfl) rfl (ops_val (yld_move rfl) rfl (ops_val (yld_move rfl) rfl ?_)))))))
         refine ops_val (yld_move rfl) rfl (ops_val (yld_struct strt31 rfl rfl) rfl ?_)
         refine ops_slit Tryz.runUnderlying25 Tryz.sizeOf31 Tryz.zeroValue31 rfl rfl rfl rfl rfl rfl fun b5 => ?_
         refine ops_call (add_c ⟨6, [], [], [], f, g, ro, 0, 0, 0⟩ frm l1 q2 hj.2.1 (by omega)) rfl (.cons _ (@List.perm_append_comm _ [_] _)) (fun _ _ _ => trivial) rfl fun x => ?_
         obtain ⟨q7, hq7⟩ := x
         have hb7 := ins_len frm l1 ⟨6, [], [], [], f, g, ro, 0, 0, 0⟩
         refine ok_perm (@List.perm_append_comm _ _ [_]) ?_
         refine ops_nil (fin_next rfl (run_region (ops_val (yld_move rfl) rfl (ops_val (yld_assign rfl) rfl (ops_nil (fin_next rfl (run_region ?_)))))))
         refine ops_val (yld_arith rfl rfl rfl (wrap64 (by omega) (by omega))) rfl ?_
         refine ops_val (yld_move rfl) rfl (ops_nil (fin_inv rfl ?_))
         have hd1 := drop_of hp1
         have hd2 : (rs.drop (1 + i + 1) = []) ↔ ¬ (i + 2 < rs.length) := by rw [List.drop_eq_nil_iff]; omega
         exact ok_again ⟨(i + 1, ro, (ins frm l1 ⟨6, [], [], [], f, g, ro, 0, 0, 0⟩), q7), by dsimp only; omega, hq7, by dsimp only; omega, by dsimp only; omega, by rw [hj.2.2.2.2, hd1]; simp only [Ax.chainP]; rw [if_pos (by rw [hd2]; omega), show 1 + (i + 1) = 1 + i + 1 by omega]⟩ (by simp; omega) ⟨rfl, rfl, rfl, rfl, rfl, rfl, trivial⟩ (F := []) (by rw [List.append_nil]; exact .refl _) (fun _ _ h => h)
        ·
         replace hr11 := of_decide_eq_true hr11
         try dsimp only [Con.kind, Con.parts, Con.name, Con.lo, Con.hi, Con.cap, Con.ad] at hr11
         refine run_cond_t rfl (run_region (ops_val (yld_move rfl) rfl (ops_val (yld_cat rfl rfl (by simp only [List.length_append, List.length_cons, List.length_nil]; omega)) rfl ?_)))
         refine ops_val (yld_move rfl) rfl (ops_val (yld_cat rfl rfl (by simp only [List.length_append, List.length_cons, List.length_nil]; omega)) rfl ?_)
         refine ops_val (yld_assign rfl) rfl (ops_nil (fin_next rfl (run_seq (run_region (ops_val (yld_move rfl) rfl (ops_val (yld_move rfl) rfl (ops_val (yld_move rfl) rfl ?_)))))))
         refine ops_val (yld_move rfl) rfl (ops_val (yld_struct strt31 rfl rfl) rfl ?_)
         refine ops_slit Tryz.runUnderlying25 Tryz.sizeOf31 Tryz.zeroValue31 rfl rfl rfl rfl rfl rfl fun b6 => ?_
         refine ops_call (add_c ⟨6, [], [], [], f, g, (f ++ [46]) ++ g, 0, 0, 0⟩ frm l1 q2 hj.2.1 (by omega)) rfl (.cons _ (@List.perm_append_comm _ [_] _)) (fun _ _ _ => trivial) rfl fun x => ?_
         obtain ⟨q8, hq8⟩ := x
         have hb8 := ins_len frm l1 ⟨6, [], [], [], f, g, (f ++ [46]) ++ g, 0, 0, 0⟩
         refine ok_perm (@List.perm_append_comm _ _ [_]) ?_
         refine ops_nil (fin_next rfl (run_region (ops_val (yld_move rfl) rfl (ops_val (yld_assign rfl) rfl (ops_nil (fin_next rfl (run_region ?_)))))))
         refine ops_val (yld_arith rfl rfl rfl (wrap64 (by omega) (by omega))) rfl ?_
         refine ops_val (yld_move rfl) rfl (ops_nil (fin_inv rfl ?_))
         have hd1 := drop_of hp1
         have hd2 : (rs.drop (1 + i + 1) = []) ↔ ¬ (i + 2 < rs.length) := by rw [List.drop_eq_nil_iff]; omega
         exact ok_again ⟨(i + 1, (f ++ [46]) ++ g, (ins frm l1 ⟨6, [], [], [], f, g, (f ++ [46]) ++ g, 0, 0, 0⟩), q8), by dsimp only; omega, hq8, by dsimp only; omega, by simp only [List.length_append, List.length_cons, List.length_nil]; omega, by rw [hj.2.2.2.2, hd1]; simp only [Ax.chainP]; rw [if_neg (by rw [hd2]; omega), show 1 + (i + 1) = 1 + i + 1 by omega]⟩ (by simp; omega) ⟨rfl, rfl, rfl, rfl, rfl, rfl, trivial⟩ (F := []) (by rw [List.append_nil]; exact .refl _) (fun _ _ h => h)
     ·
      replace hr5 := eq_of_beq hr5
      try dsimp only [Con.kind, Con.parts, Con.name, Con.lo, Con.hi, Con.cap, Con.ad] at hr5
      have hn0 : 0 < rs.length := by have := G.one hr5; dsimp only at this; omega
      obtain ⟨r0, hr0⟩ : ∃ r0, rs[0]? = some r0 := ⟨_, List.getElem?_eq_getElem hn0⟩
      refine run_cond_t rfl ?_
      refine run_drawH [(b1, .cells #[.int .i64 k, .bool op, .int .i64 kl, str nl, .int .i64 ll, .int .i64 hl, .slice al pl.length cl, .int .i64 kr, str nr, .int .i64 lr, .int .i64 hr, .slice ar pr.length cr, .slice ad rs.length cap, str ro, str a, str b] 41 (0, 0))] (by kernel_rfl) ?_
      refine any_sq 2 [0, 1, 2, 3, 4, 5, 6, 7] (by kernel_rfl) (fun _ a b => ⟨Vw.sat.sub a, b⟩) ?_
      refine sq_val rfl (yld_move rfl) rfl ?_
      refine sq_val rfl (yld_field Tryz.runUnderlying41 rfl rfl rfl Tryz.sizeOf39) rfl ?_
      refine sq_val rfl (yld_load 0 Tryz.isAgg39 rfl rfl rfl) rfl ?_
      refine sq_val rfl (yld_indexR Tryz.runUnderlying39 Tryz.sizeOf9 rfl rfl (fun v _ h => row_adr (n := 1) strC_len (by decide) (h.2.2.2.1.2.2) hr0) (by omega) (by first | omega | (simp only [Con.parts]; omega) | (simp [Con.parts]; done))) rfl ?_
      refine sq_val rfl (yld_loadR (ad := ad) Tryz.isAgg9 rfl (fun v _ h => h.2.2.2.1.2.2) (row_cells strC_len hr0 0 _ rfl)) rfl ?_
      refine sq_val rfl (yld_field Tryz.runUnderlying41 rfl rfl rfl Tryz.sizeOf9) rfl ?_
      refine sq_val rfl (yld_load 0 Tryz.isAgg9 rfl rfl rfl) rfl ?_
      refine sq_val rfl (yld_struct strt31 rfl rfl) rfl ?_
      refine sq_nil ?_
      refine any_one 8 rfl (by kernel_rfl) ?_
      refine ops_slit Tryz.runUnderlying25 Tryz.sizeOf31 Tryz.zeroValue31 rfl rfl rfl rfl rfl rfl fun b7 => ?_
      refine ops_nil (fin_inv rfl (any_next (fun _ a b => ⟨Vw.sat.sub a.tail, b⟩) ?_))
      refine any_one 9 rfl (by kernel_rfl) ?_
      refine ops_call (add_c ⟨5, [], [], [], r0, [], ro, 0, 0, 0⟩ frm [] q hq (by omega)) rfl (.cons _ (@List.perm_append_comm _ [_] _)) (fun _ _ _ => trivial) rfl fun x => ?_
      obtain ⟨q10, hq10⟩ := x
      have hb10 := ins_len frm [] ⟨5, [], [], [], r0, [], ro, 0, 0, 0⟩
      refine ok_perm (@List.perm_append_comm _ _ [_]) ?_
      refine ops_nil (fin_inv rfl (any_next (fun _ a b => ⟨Vw.sat.sub a, b⟩) ?_))
      refine any_done (by kernel_rfl) ?_
      refine fin_end rfl ?_
      have e : Ax.pieces frm ⟨k, op, (.mk kl nl ll hl al cl pl), (.mk kr nr lr hr ar cr pr), ad, cap, rs, ro, a, b⟩ = (ins frm [] ⟨5, [], [], [], r0, [], ro, 0, 0, 0⟩) := by
       unfold Ax.pieces
       dsimp only
       rw [headD_of hr0]
       repeat (first | rfl | (rw [if_pos (by omega)]) | (rw [if_neg (by omega)]))
      exact end0 Tryz.results40 ⟨q10, by rw [e]; exact hq10⟩ rfl (F := [_]) (@List.perm_append_comm _ [_] _) (fun _ _ _ => trivial)
    ·
     replace hr4 := eq_of_beq hr4
     try dsimp only [Con.kind, Con.parts, Con.name, Con.lo, Con.hi, Con.cap, Con.ad] at hr4
     obtain ⟨fr, zr⟩ := Con.check_zero (G.right (by show k ≤ 4 ∨ k = 8; omega))
     dsimp only at fr zr
     refine run_cond_t rfl (run_seq (run_region (ops_val (yld_move rfl) rfl (ops_val (yld_field Tryz.runUnderlying41 rfl rfl rfl Tryz.sizeOf38) rfl ?_))))
     refine ops_val (yld_loadS 0 Tryz.isAgg38 Tryz.sizeOf38 rfl rfl rfl) rfl ?_
     refine ops_calld (right_c (kb := kb) (bk := bk) (bs := br) _ (.mk kr nr lr hr ar cr pr) (Nat.le_refl _) hok.right fr [] q hq (by omega)) rfl rfl (@List.perm_append_comm _ [_] _) (fun v _ h => by exact ⟨h.2.2.2.1.2.1, h.2.2.2.2.1, h.1, h.2.2.1, trivial⟩) rfl fun x => ?_
     obtain ⟨q11, hq11⟩ := x
     have hb11 := Con.rightP_len frm _ (.mk kr nr lr hr ar cr pr) (Nat.le_refl _) []
     refine ok_perm (@List.perm_append_comm _ _ [_]) ?_
     refine ops_nil (fin_next rfl ?_)
     refine run_drawH [(b1, .cells #[.int .i64 k, .bool op, .int .i64 kl, str nl, .int .i64 ll, .int .i64 hl, .slice al pl.length cl, .int .i64 kr, str nr, .int .i64 lr, .int .i64 hr, .slice ar pr.length cr, .slice ad rs.length cap, str ro, str a, str b] 41 (0, 0))] (by kernel_rfl) ?_
     refine any_sq 4 [0, 1, 2, 3, 4] (by kernel_rfl) (fun _ a b => ⟨Vw.sat.sub a, b⟩) ?_
     refine sq_val rfl (yld_move rfl) rfl ?_
     refine sq_val rfl (yld_field Tryz.runUnderlying41 rfl rfl rfl Tryz.sizeOf9) rfl ?_
     refine sq_val rfl (yld_load 0 Tryz.isAgg9 rfl rfl rfl) rfl ?_
     refine sq_val rfl (yld_field Tryz.runUnderlying41 rfl rfl rfl Tryz.sizeOf38) rfl ?_
     refine sq_val rfl (yld_loadS 0 Tryz.isAgg38 Tryz.sizeOf38 rfl rfl rfl) rfl ?_
     refine sq_nil ?_
     refine any_one 5 rfl (by kernel_rfl) ?_
     refine ops_call (atom_c (.mk kr nr lr hr ar cr pr) hok.right) rfl (.refl _) (fun v _ h => ⟨h.2.2.2.1.2.1, h.2.2.2.2.1, trivial⟩) rfl fun _ => ?_
     refine ops_nil (fin_inv rfl (any_next (fun _ a b => ⟨Vw.sat.sub a, b⟩) ?_))
     refine any_sq 2 [6] (by kernel_rfl) (fun _ a b => ⟨Vw.sat.sub a, b⟩) ?_
     refine sq_val rfl (yld_struct strt31 rfl rfl) rfl ?_
     refine sq_nil ?_
     refine any_one 7 rfl (by kernel_rfl) ?_
     refine ops_slit Tryz.runUnderlying25 Tryz.sizeOf31 Tryz.zeroValue31 rfl rfl rfl rfl rfl rfl fun b8 => ?_
     refine ops_nil (fin_inv rfl (any_next (fun _ a b => ⟨Vw.sat.sub a.tail, b⟩) ?_))
     refine any_one 8 rfl (by kernel_rfl) ?_
     refine ops_call (add_c ⟨4, [42], [], (Con.atom (.mk kr nr lr hr ar cr pr)), ro, [], [], 0, 0, 0⟩ frm (Con.rightP frm (.mk kr nr lr hr ar cr pr) []) q11 hq11 (by omega)) rfl (.cons _ (@List.perm_append_comm _ [_] _)) (fun _ _ _ => trivial) rfl fun x => ?_
     obtain ⟨q13, hq13⟩ := x
     have hb13 := ins_len frm (Con.rightP frm (.mk kr nr lr hr ar cr pr) []) ⟨4, [42], [], (Con.atom (.mk kr nr lr hr ar cr pr)), ro, [], [], 0, 0, 0⟩
     refine ok_perm (@List.perm_append_comm _ _ [_]) ?_
     refine ops_nil (fin_inv rfl (any_next (fun _ a b => ⟨Vw.sat.sub a, b⟩) ?_))
     refine any_done (by kernel_rfl) ?_
     refine fin_end rfl ?_
     have e : Ax.pieces frm ⟨k, op, (.mk kl nl ll hl al cl pl), (.mk kr nr lr hr ar cr pr), ad, cap, rs, ro, a, b⟩ = (ins frm (Con.rightP frm (.mk kr nr lr hr ar cr pr) []) ⟨4, [42], [], (Con.atom (.mk kr nr lr hr ar cr pr)), ro, [], [], 0, 0, 0⟩) := by
      unfold Ax.pieces
      dsimp only
      repeat (first | rfl | (rw [if_pos (by omega)]) | (rw [if_neg (by omega)]))
     exact end0 Tryz.results40 ⟨q13, by rw [e]; exact hq13⟩ rfl (F := [_]) (@List.perm_append_comm _ [_] _) (fun _ _ _ => trivial)
   ·
    replace hr3 := eq_of_beq hr3
    try dsimp only [Con.kind, Con.parts, Con.name, Con.lo, Con.hi, Con.cap, Con.ad] at hr3
    obtain ⟨fl, zl⟩ := Con.check_zero (G.left (by show k ≤ 3; omega))
    dsimp only at fl zl
    obtain ⟨fr, zr⟩ := Con.check_zero (G.right (by show k ≤ 4 ∨ k = 8; omega))
    dsimp only at fr zr
    refine run_cond_t rfl (run_seq (run_region (ops_val (yld_move rfl) rfl (ops_val (yld_field Tryz.runUnderlying41 rfl rfl rfl Tryz.sizeOf38) rfl ?_))))
    refine ops_val (yld_loadS 0 Tryz.isAgg38 Tryz.sizeOf38 rfl rfl rfl) rfl ?_
    refine ops_calld (left_c (kb := kb) (bk := bk) (bs := bl) _ (.mk kl nl ll hl al cl pl) (Nat.le_refl _) hok.left fl [] q hq (by omega)) rfl rfl (@List.perm_append_comm _ [_] _) (fun v _ h => by exact ⟨h.2.2.2.1.1, h.2.2.2.2.1, h.1, h.2.1, trivial⟩) rfl fun x => ?_
    obtain ⟨q14, hq14⟩ := x
    have hb14 := Con.leftP_len frm _ (.mk kl nl ll hl al cl pl) (Nat.le_refl _) []
    refine ok_perm (@List.perm_append_comm _ _ [_]) ?_
    refine ops_nil (fin_next rfl (run_seq (run_region (ops_val (yld_move rfl) rfl (ops_val (yld_field Tryz.runUnderlying41 rfl rfl rfl Tryz.sizeOf38) rfl ?_)))))
    refine ops_val (yld_loadS 0 Tryz.isAgg38 Tryz.sizeOf38 rfl rfl rfl) rfl ?_
    refine ops_calld (left_c (kb := kb) (bk := bk) (bs := bl) _ (.mk kr nr lr hr ar cr pr) (Nat.le_refl _) hok.right fr (Con.leftP frm (.mk kl nl ll hl al cl pl) []) q14 hq14 (by omega)) rfl rfl (@List.perm_append_comm _ [_] _) (fun v _ h => by exact ⟨h.2.2.2.1.2.1, h.2.2.2.2.1, h.1, h.2.1, trivial⟩) rfl fun x => ?_
    obtain ⟨q15, hq15⟩ := x
    have hb15 := Con.leftP_len frm _ (.mk kr nr lr hr ar cr pr) (Nat.le_refl _) (Con.leftP frm (.mk kl nl ll hl al cl pl) [])
    refine ok_perm (@List.perm_append_comm _ _ [_]) ?_
    refine ops_nil (fin_next rfl ?_)
    refine run_drawH [(b1, .cells #[.int .i64 k, .bool op, .int .i64 kl, str nl, .int .i64 ll, .int .i64 hl, .slice al pl.length cl, .int .i64 kr, str nr, .int .i64 lr, .int .i64 hr, .slice ar pr.length cr, .slice ad rs.length cap, str ro, str a, str b] 41 (0, 0))] (by kernel_rfl) ?_
    refine any_sq 5 [0, 1, 2, 4, 5] (by kernel_rfl) (fun _ a b => ⟨Vw.sat.sub a, b⟩) ?_
    refine sq_val rfl (yld_move rfl) rfl ?_
    refine sq_val rfl (yld_field Tryz.runUnderlying41 rfl rfl rfl Tryz.sizeOf38) rfl ?_
    refine sq_val rfl (yld_loadS 0 Tryz.isAgg38 Tryz.sizeOf38 rfl rfl rfl) rfl ?_
    refine sq_val rfl (yld_field Tryz.runUnderlying41 rfl rfl rfl Tryz.sizeOf38) rfl ?_
    refine sq_val rfl (yld_loadS 0 Tryz.isAgg38 Tryz.sizeOf38 rfl rfl rfl) rfl ?_
    refine sq_nil ?_
    refine any_one 3 rfl (by kernel_rfl) ?_
    refine ops_call (atom_c (.mk kl nl ll hl al cl pl) hok.left) rfl (.refl _) (fun v _ h => ⟨h.2.2.2.1.1, h.2.2.2.2.1, trivial⟩) rfl fun _ => ?_
    refine ops_nil (fin_inv rfl (any_next (fun _ a b => ⟨Vw.sat.sub a, b⟩) ?_))
    refine any_one 6 rfl (by kernel_rfl) ?_
    refine ops_call (atom_c (.mk kr nr lr hr ar cr pr) hok.right) rfl (.refl _) (fun v _ h => ⟨h.2.2.2.1.2.1, h.2.2.2.2.1, trivial⟩) rfl fun _ => ?_
    refine ops_nil (fin_inv rfl (any_next (fun _ a b => ⟨Vw.sat.sub a, b⟩) ?_))
    refine any_sq 2 [7] (by kernel_rfl) (fun _ a b => ⟨Vw.sat.sub a, b⟩) ?_
    refine sq_val rfl (yld_struct strt31 rfl rfl) rfl ?_
    refine sq_nil ?_
    refine any_one 8 rfl (by kernel_rfl) ?_
    refine ops_slit Tryz.runUnderlying25 Tryz.sizeOf31 Tryz.zeroValue31 rfl rfl rfl rfl rfl rfl fun b9 => ?_
    refine ops_nil (fin_inv rfl (any_next (fun _ a b => ⟨Vw.sat.sub a.tail, b⟩) ?_))
    refine any_one 9 rfl (by kernel_rfl) ?_
    refine ops_call (add_c ⟨2, (Con.atom (.mk kl nl ll hl al cl pl)), (Con.atom (.mk kr nr lr hr ar cr pr)), [33], [], [], [], 0, 0, 0⟩ frm (Con.leftP frm (.mk kr nr lr hr ar cr pr) (Con.leftP frm (.mk kl nl ll hl al cl pl) [])) q15 hq15 (by omega)) rfl (.cons _ (@List.perm_append_comm _ [_] _)) (fun _ _ _ => trivial) rfl fun x => ?_
    obtain ⟨q17, hq17⟩ := x
    have hb17 := ins_len frm (Con.leftP frm (.mk kr nr lr hr ar cr pr) (Con.leftP frm (.mk kl nl ll hl al cl pl) [])) ⟨2, (Con.atom (.mk kl nl ll hl al cl pl)), (Con.atom (.mk kr nr lr hr ar cr pr)), [33], [], [], [], 0, 0, 0⟩
    refine ok_perm (@List.perm_append_comm _ _ [_]) ?_
    refine ops_nil (fin_inv rfl (any_next (fun _ a b => ⟨Vw.sat.sub a, b⟩) ?_))
    refine any_done (by kernel_rfl) ?_
    refine fin_end rfl ?_
    have e : Ax.pieces frm ⟨k, op, (.mk kl nl ll hl al cl pl), (.mk kr nr lr hr ar cr pr), ad, cap, rs, ro, a, b⟩ = (ins frm (Con.leftP frm (.mk kr nr lr hr ar cr pr) (Con.leftP frm (.mk kl nl ll hl al cl pl) [])) ⟨2, (Con.atom (.mk kl nl ll hl al cl pl)), (Con.atom (.mk kr nr lr hr ar cr pr)), [33], [], [], [], 0, 0, 0⟩) := by
     unfold Ax.pieces
     dsimp only
     repeat (first | rfl | (rw [if_pos (by omega)]) | (rw [if_neg (by omega)]))
    exact end0 Tryz.results40 ⟨q17, by rw [e]; exact hq17⟩ rfl (F := [_]) (@List.perm_append_comm _ [_] _) (fun _ _ _ => trivial)
  ·
   replace hr2 := eq_of_beq hr2
   try dsimp only [Con.kind, Con.parts, Con.name, Con.lo, Con.hi, Con.cap, Con.ad] at hr2
   obtain ⟨fl, zl⟩ := Con.check_zero (G.left (by show k ≤ 3; omega))
   dsimp only at fl zl
   obtain ⟨fr, zr⟩ := Con.check_zero (G.right (by show k ≤ 4 ∨ k = 8; omega))
   dsimp only at fr zr
   refine run_cond_t rfl (run_seq (run_region (ops_val (yld_move rfl) rfl (ops_val (yld_field Tryz.runUnderlying41 rfl rfl rfl Tryz.sizeOf38) rfl ?_))))
   refine ops_val (yld_loadS 0 Tryz.isAgg38 Tryz.sizeOf38 rfl rfl rfl) rfl ?_
   refine ops_calld (left_c (kb := kb) (bk := bk) (bs := bl) _ (.mk kl nl ll hl al cl pl) (Nat.le_refl _) hok.left fl [] q hq (by omega)) rfl rfl (@List.perm_append_comm _ [_] _) (fun v _ h => by exact ⟨h.2.2.2.1.1, h.2.2.2.2.1, h.1, h.2.1, trivial⟩) rfl fun x => ?_
   obtain ⟨q18, hq18⟩ := x
   have hb18 := Con.leftP_len frm _ (.mk kl nl ll hl al cl pl) (Nat.le_refl _) []
   refine ok_perm (@List.perm_append_comm _ _ [_]) ?_
   refine ops_nil (fin_next rfl (run_seq (run_region (ops_val (yld_move rfl) rfl (ops_val (yld_field Tryz.runUnderlying41 rfl rfl rfl Tryz.sizeOf38) rfl ?_)))))
   refine ops_val (yld_loadS 0 Tryz.isAgg38 Tryz.sizeOf38 rfl rfl rfl) rfl ?_
   refine ops_calld (right_c (kb := kb) (bk := bk) (bs := br) _ (.mk kr nr lr hr ar cr pr) (Nat.le_refl _) hok.right fr (Con.leftP frm (.mk kl nl ll hl al cl pl) []) q18 hq18 (by omega)) rfl rfl (@List.perm_append_comm _ [_] _) (fun v _ h => by exact ⟨h.2.2.2.1.2.1, h.2.2.2.2.1, h.1, h.2.2.1, trivial⟩) rfl fun x => ?_
   obtain ⟨q19, hq19⟩ := x
   have hb19 := Con.rightP_len frm _ (.mk kr nr lr hr ar cr pr) (Nat.le_refl _) (Con.leftP frm (.mk kl nl ll hl al cl pl) [])
   refine ok_perm (@List.perm_append_comm _ _ [_]) ?_
   refine ops_nil (fin_next rfl (run_seq ?_))
   refine run_drawH [(b1, .cells #[.int .i64 k, .bool op, .int .i64 kl, str nl, .int .i64 ll, .int .i64 hl, .slice al pl.length cl, .int .i64 kr, str nr, .int .i64 lr, .int .i64 hr, .slice ar pr.length cr, .slice ad rs.length cap, str ro, str a, str b] 41 (0, 0))] (by kernel_rfl) ?_
   refine any_sq 5 [0, 1, 2, 4, 5] (by kernel_rfl) (fun _ a b => ⟨Vw.sat.sub a, b⟩) ?_
   refine sq_val rfl (yld_move rfl) rfl ?_
   refine sq_val rfl (yld_field Tryz.runUnderlying41 rfl rfl rfl Tryz.sizeOf38) rfl ?_
   refine sq_val rfl (yld_loadS 0 Tryz.isAgg38 Tryz.sizeOf38 rfl rfl rfl) rfl ?_
   refine sq_val rfl (yld_field Tryz.runUnderlying41 rfl rfl rfl Tryz.sizeOf38) rfl ?_
   refine sq_val rfl (yld_loadS 0 Tryz.isAgg38 Tryz.sizeOf38 rfl rfl rfl) rfl ?_
   refine sq_nil ?_
   refine any_one 3 rfl (by kernel_rfl) ?_
   refine ops_call (atom_c (.mk kl nl ll hl al cl pl) hok.left) rfl (.refl _) (fun v _ h => ⟨h.2.2.2.1.1, h.2.2.2.2.1, trivial⟩) rfl fun _ => ?_
   refine ops_nil (fin_inv rfl (any_next (fun _ a b => ⟨Vw.sat.sub a, b⟩) ?_))
   refine any_one 6 rfl (by kernel_rfl) ?_
   refine ops_call (atom_c (.mk kr nr lr hr ar cr pr) hok.right) rfl (.refl _) (fun v _ h => ⟨h.2.2.2.1.2.1, h.2.2.2.2.1, trivial⟩) rfl fun _ => ?_
   refine ops_nil (fin_inv rfl (any_next (fun _ a b => ⟨Vw.sat.sub a, b⟩) ?_))
   refine any_sq 2 [7] (by kernel_rfl) (fun _ a b => ⟨Vw.sat.sub a, b⟩) ?_
   refine sq_val rfl (yld_struct strt31 rfl rfl) rfl ?_
   refine sq_nil ?_
   refine any_one 8 rfl (by kernel_rfl) ?_
   refine ops_slit Tryz.runUnderlying25 Tryz.sizeOf31 Tryz.zeroValue31 rfl rfl rfl rfl rfl rfl fun b10 => ?_
   refine ops_nil (fin_inv rfl (any_next (fun _ a b => ⟨Vw.sat.sub a.tail, b⟩) ?_))
   refine any_one 9 rfl (by kernel_rfl) ?_
   refine ops_call (add_c ⟨1, (Con.atom (.mk kl nl ll hl al cl pl)), [], (Con.atom (.mk kr nr lr hr ar cr pr)), [], [], [], 0, 0, 0⟩ frm (Con.rightP frm (.mk kr nr lr hr ar cr pr) (Con.leftP frm (.mk kl nl ll hl al cl pl) [])) q19 hq19 (by omega)) rfl (.cons _ (@List.perm_append_comm _ [_] _)) (fun _ _ _ => trivial) rfl fun x => ?_
   obtain ⟨q21, hq21⟩ := x
   have hb21 := ins_len frm (Con.rightP frm (.mk kr nr lr hr ar cr pr) (Con.leftP frm (.mk kl nl ll hl al cl pl) [])) ⟨1, (Con.atom (.mk kl nl ll hl al cl pl)), [], (Con.atom (.mk kr nr lr hr ar cr pr)), [], [], [], 0, 0, 0⟩
   refine ok_perm (@List.perm_append_comm _ _ [_]) ?_
   refine ops_nil (fin_inv rfl (any_next (fun _ a b => ⟨Vw.sat.sub a, b⟩) ?_))
   refine any_done (by kernel_rfl) ?_
   refine fin_next rfl (run_seq (run_region (ops_val (yld_move rfl) rfl (ops_val (yld_field Tryz.runUnderlying41 rfl rfl rfl Tryz.sizeOf38) rfl ?_))))
   refine ops_val (yld_loadS 0 Tryz.isAgg38 Tryz.sizeOf38 rfl rfl rfl) rfl ?_
   refine ops_calld (left_c (kb := kb) (bk := bk) (bs := bl) _ (.mk kr nr lr hr ar cr pr) (Nat.le_refl _) hok.right fr (ins frm (Con.rightP frm (.mk kr nr lr hr ar cr pr) (Con.leftP frm (.mk kl nl ll hl al cl pl) [])) ⟨1, (Con.atom (.mk kl nl ll hl al cl pl)), [], (Con.atom (.mk kr nr lr hr ar cr pr)), [], [], [], 0, 0, 0⟩) q21 hq21 (by omega)) rfl rfl (@List.perm_append_comm _ [_] _) (fun v _ h => by exact ⟨h.2.2.2.1.2.1, h.2.2.2.2.1, h.1, h.2.1, trivial⟩) rfl fun x => ?_
   obtain ⟨q22, hq22⟩ := x
   have hb22 := Con.leftP_len frm _ (.mk kr nr lr hr ar cr pr) (Nat.le_refl _) (ins frm (Con.rightP frm (.mk kr nr lr hr ar cr pr) (Con.leftP frm (.mk kl nl ll hl al cl pl) [])) ⟨1, (Con.atom (.mk kl nl ll hl al cl pl)), [], (Con.atom (.mk kr nr lr hr ar cr pr)), [], [], [], 0, 0, 0⟩)
   refine ok_perm (@List.perm_append_comm _ _ [_]) ?_
   refine ops_nil (fin_next rfl (run_seq (run_region (ops_val (yld_move rfl) rfl (ops_val (yld_field Tryz.runUnderlying41 rfl rfl rfl Tryz.sizeOf38) rfl ?_)))))
   refine ops_val (yld_loadS 0 Tryz.isAgg38 Tryz.sizeOf38 rfl rfl rfl) rfl ?_
   refine ops_calld (right_c (kb := kb) (bk := bk) (bs := br) _ (.mk kl nl ll hl al cl pl) (Nat.le_refl _) hok.left fl (Con.leftP frm (.mk kr nr lr hr ar cr pr) (ins frm (Con.rightP frm (.mk kr nr lr hr ar cr pr) (Con.leftP frm (.mk kl nl ll hl al cl pl) [])) ⟨1, (Con.atom (.mk kl nl ll hl al cl pl)), [], (Con.atom (.mk kr nr lr hr ar cr pr)), [], [], [], 0, 0, 0⟩)) q22 hq22 (by omega)) rfl rfl (@List.perm_append_comm _ [_] _) (fun v _ h => by exact ⟨h.2.2.2.1.1, h.2.2.2.2.1, h.1, h.2.2.1, trivial⟩) rfl fun x => ?_
   obtain ⟨q23, hq23⟩ := x
   have hb23 := Con.rightP_len frm _ (.mk kl nl ll hl al cl pl) (Nat.le_refl _) (Con.leftP frm (.mk kr nr lr hr ar cr pr) (ins frm (Con.rightP frm (.mk kr nr lr hr ar cr pr) (Con.leftP frm (.mk kl nl ll hl al cl pl) [])) ⟨1, (Con.atom (.mk kl nl ll hl al cl pl)), [], (Con.atom (.mk kr nr lr hr ar cr pr)), [], [], [], 0, 0, 0⟩))
   refine ok_perm (@List.perm_append_comm _ _ [_]) ?_
   refine ops_nil (fin_next rfl ?_)
   refine run_drawH [(b1, .cells #[.int .i64 k, .bool op, .int .i64 kl, str nl, .int .i64 ll, .int .i64 hl, .slice al pl.length cl, .int .i64 kr, str nr, .int .i64 lr, .int .i64 hr, .slice ar pr.length cr, .slice ad rs.length cap, str ro, str a, str b] 41 (0, 0))] (by kernel_rfl) ?_
   refine any_sq 5 [0, 1, 2, 4, 5] (by kernel_rfl) (fun _ a b => ⟨Vw.sat.sub a, b⟩) ?_
   refine sq_val rfl (yld_move rfl) rfl ?_
   refine sq_val rfl (yld_field Tryz.runUnderlying41 rfl rfl rfl Tryz.sizeOf38) rfl ?_
   refine sq_val rfl (yld_loadS 0 Tryz.isAgg38 Tryz.sizeOf38 rfl rfl rfl) rfl ?_
   refine sq_val rfl (yld_field Tryz.runUnderlying41 rfl rfl rfl Tryz.sizeOf38) rfl ?_
   refine sq_val rfl (yld_loadS 0 Tryz.isAgg38 Tryz.sizeOf38 rfl rfl rfl) rfl ?_
   refine sq_nil ?_
   refine any_one 3 rfl (by kernel_rfl) ?_
   refine ops_call (atom_c (.mk kr nr lr hr ar cr pr) hok.right) rfl (.refl _) (fun v _ h => ⟨h.2.2.2.1.2.1, h.2.2.2.2.1, trivial⟩) rfl fun _ => ?_
   refine ops_nil (fin_inv rfl (any_next (fun _ a b => ⟨Vw.sat.sub a, b⟩) ?_))
   refine any_one 6 rfl (by kernel_rfl) ?_
   refine ops_call (atom_c (.mk kl nl ll hl al cl pl) hok.left) rfl (.refl _) (fun v _ h => ⟨h.2.2.2.1.1, h.2.2.2.2.1, trivial⟩) rfl fun _ => ?_
   refine ops_nil (fin_inv rfl (any_next (fun _ a b => ⟨Vw.sat.sub a, b⟩) ?_))
   refine any_sq 2 [7] (by kernel_rfl) (fun _ a b => ⟨Vw.sat.sub a, b⟩) ?_
   refine sq_val rfl (yld_struct strt31 rfl rfl) rfl ?_
   refine sq_nil ?_
   refine any_one 8 rfl (by kernel_rfl) ?_
   refine ops_slit Tryz.runUnderlying25 Tryz.sizeOf31 Tryz.zeroValue31 rfl rfl rfl rfl rfl rfl fun b11 => ?_
   refine ops_nil (fin_inv rfl (any_next (fun _ a b => ⟨Vw.sat.sub a.tail, b⟩) ?_))
   refine any_one 9 rfl (by kernel_rfl) ?_
   refine ops_call (add_c ⟨1, (Con.atom (.mk kr nr lr hr ar cr pr)), [], (Con.atom (.mk kl nl ll hl al cl pl)), [], [], [], 0, 0, 0⟩ frm (Con.rightP frm (.mk kl nl ll hl al cl pl) (Con.leftP frm (.mk kr nr lr hr ar cr pr) (ins frm (Con.rightP frm (.mk kr nr lr hr ar cr pr) (Con.leftP frm (.mk kl nl ll hl al cl pl) [])) ⟨1, (Con.atom (.mk kl nl ll hl al cl pl)), [], (Con.atom (.mk kr nr lr hr ar cr pr)), [], [], [], 0, 0, 0⟩))) q23 hq23 (by omega)) rfl (.cons _ (@List.perm_append_comm _ [_] _)) (fun _ _ _ => trivial) rfl fun x => ?_
   obtain ⟨q25, hq25⟩ := x
   have hb25 := ins_len frm (Con.rightP frm (.mk kl nl ll hl al cl pl) (Con.leftP frm (.mk kr nr lr hr ar cr pr) (ins frm (Con.rightP frm (.mk kr nr lr hr ar cr pr) (Con.leftP frm (.mk kl nl ll hl al cl pl) [])) ⟨1, (Con.atom (.mk kl nl ll hl al cl pl)), [], (Con.atom (.mk kr nr lr hr ar cr pr)), [], [], [], 0, 0, 0⟩))) ⟨1, (Con.atom (.mk kr nr lr hr ar cr pr)), [], (Con.atom (.mk kl nl ll hl al cl pl)), [], [], [], 0, 0, 0⟩
   refine ok_perm (@List.perm_append_comm _ _ [_]) ?_
   refine ops_nil (fin_inv rfl (any_next (fun _ a b => ⟨Vw.sat.sub a, b⟩) ?_))
   refine any_done (by kernel_rfl) ?_
   refine fin_end rfl ?_
   have e : Ax.pieces frm ⟨k, op, (.mk kl nl ll hl al cl pl), (.mk kr nr lr hr ar cr pr), ad, cap, rs, ro, a, b⟩ = (ins frm (Con.rightP frm (.mk kl nl ll hl al cl pl) (Con.leftP frm (.mk kr nr lr hr ar cr pr) (ins frm (Con.rightP frm (.mk kr nr lr hr ar cr pr) (Con.leftP frm (.mk kl nl ll hl al cl pl) [])) ⟨1, (Con.atom (.mk kl nl ll hl al cl pl)), [], (Con.atom (.mk kr nr lr hr ar cr pr)), [], [], [], 0, 0, 0⟩))) ⟨1, (Con.atom (.mk kr nr lr hr ar cr pr)), [], (Con.atom (.mk kl nl ll hl al cl pl)), [], [], [], 0, 0, 0⟩) := by
    unfold Ax.pieces
    dsimp only
    repeat (first | rfl | (rw [if_pos (by omega)]) | (rw [if_neg (by omega)]))
   exact end0 Tryz.results40 ⟨q25, by rw [e]; exact hq25⟩ rfl (F := [_]) (@List.perm_append_comm _ [_] _) (fun _ _ _ => trivial)
 ·
  replace hr1 := eq_of_beq hr1
  try dsimp only [Con.kind, Con.parts, Con.name, Con.lo, Con.hi, Con.cap, Con.ad] at hr1
  obtain ⟨fl, zl⟩ := Con.check_zero (G.left (by show k ≤ 3; omega))
  dsimp only at fl zl
  obtain ⟨fr, zr⟩ := Con.check_zero (G.right (by show k ≤ 4 ∨ k = 8; omega))
  dsimp only at fr zr
  refine run_cond_t rfl (run_seq (run_region (ops_val (yld_move rfl) rfl (ops_val (yld_field Tryz.runUnderlying41 rfl rfl rfl Tryz.sizeOf38) rfl ?_))))
  refine ops_val (yld_loadS 0 Tryz.isAgg38 Tryz.sizeOf38 rfl rfl rfl) rfl ?_
  refine ops_calld (left_c (kb := kb) (bk := bk) (bs := bl) _ (.mk kl nl ll hl al cl pl) (Nat.le_refl _) hok.left fl [] q hq (by omega)) rfl rfl (@List.perm_append_comm _ [_] _) (fun v _ h => by exact ⟨h.2.2.2.1.1, h.2.2.2.2.1, h.1, h.2.1, trivial⟩) rfl fun x => ?_
  obtain ⟨q26, hq26⟩ := x
  have hb26 := Con.leftP_len frm _ (.mk kl nl ll hl al cl pl) (Nat.le_refl _) []
  refine ok_perm (@List.perm_append_comm _ _ [_]) ?_
  refine ops_nil (fin_next rfl (run_seq (run_region (ops_val (yld_move rfl) rfl (ops_val (yld_field Tryz.runUnderlying41 rfl rfl rfl Tryz.sizeOf38) rfl ?_)))))
  refine ops_val (yld_loadS 0 Tryz.isAgg38 Tryz.sizeOf38 rfl rfl rfl) rfl ?_
  refine ops_calld (right_c (kb := kb) (bk := bk) (bs := br) _ (.mk kr nr lr hr ar cr pr) (Nat.le_refl _) hok.right fr (Con.leftP frm (.mk kl nl ll hl al cl pl) []) q26 hq26 (by omega)) rfl rfl (@List.perm_append_comm _ [_] _) (fun v _ h => by exact ⟨h.2.2.2.1.2.1, h.2.2.2.2.1, h.1, h.2.2.1, trivial⟩) rfl fun x => ?_
  obtain ⟨q27, hq27⟩ := x
  have hb27 := Con.rightP_len frm _ (.mk kr nr lr hr ar cr pr) (Nat.le_refl _) (Con.leftP frm (.mk kl nl ll hl al cl pl) [])
  refine ok_perm (@List.perm_append_comm _ _ [_]) ?_
  refine ops_nil (fin_next rfl ?_)
  refine run_drawH [(b1, .cells #[.int .i64 k, .bool op, .int .i64 kl, str nl, .int .i64 ll, .int .i64 hl, .slice al pl.length cl, .int .i64 kr, str nr, .int .i64 lr, .int .i64 hr, .slice ar pr.length cr, .slice ad rs.length cap, str ro, str a, str b] 41 (0, 0))] (by kernel_rfl) ?_
  refine any_sq 5 [0, 1, 2, 4, 5] (by kernel_rfl) (fun _ a b => ⟨Vw.sat.sub a, b⟩) ?_
  refine sq_val rfl (yld_move rfl) rfl ?_
  refine sq_val rfl (yld_field Tryz.runUnderlying41 rfl rfl rfl Tryz.sizeOf38) rfl ?_
  refine sq_val rfl (yld_loadS 0 Tryz.isAgg38 Tryz.sizeOf38 rfl rfl rfl) rfl ?_
  refine sq_val rfl (yld_field Tryz.runUnderlying41 rfl rfl rfl Tryz.sizeOf38) rfl ?_
  refine sq_val rfl (yld_loadS 0 Tryz.isAgg38 Tryz.sizeOf38 rfl rfl rfl) rfl ?_
  refine sq_nil ?_
  refine any_one 3 rfl (by kernel_rfl) ?_
  refine ops_call (atom_c (.mk kl nl ll hl al cl pl) hok.left) rfl (.refl _) (fun v _ h => ⟨h.2.2.2.1.1, h.2.2.2.2.1, trivial⟩) rfl fun _ => ?_
  refine ops_nil (fin_inv rfl (any_next (fun _ a b => ⟨Vw.sat.sub a, b⟩) ?_))
  refine any_one 6 rfl (by kernel_rfl) ?_
  refine ops_call (atom_c (.mk kr nr lr hr ar cr pr) hok.right) rfl (.refl _) (fun v _ h => ⟨h.2.2.2.1.2.1, h.2.2.2.2.1, trivial⟩) rfl fun _ => ?_
  refine ops_nil (fin_inv rfl (any_next (fun _ a b => ⟨Vw.sat.sub a, b⟩) ?_))
  refine any_sq 2 [7] (by kernel_rfl) (fun _ a b => ⟨Vw.sat.sub a, b⟩) ?_
  refine sq_val rfl (yld_struct strt31 rfl rfl) rfl ?_
  refine sq_nil ?_
  refine any_one 8 rfl (by kernel_rfl) ?_
  refine ops_slit Tryz.runUnderlying25 Tryz.sizeOf31 Tryz.zeroValue31 rfl rfl rfl rfl rfl rfl fun b12 => ?_
  refine ops_nil (fin_inv rfl (any_next (fun _ a b => ⟨Vw.sat.sub a.tail, b⟩) ?_))
  refine any_one 9 rfl (by kernel_rfl) ?_
  refine ops_call (add_c ⟨1, (Con.atom (.mk kl nl ll hl al cl pl)), [], (Con.atom (.mk kr nr lr hr ar cr pr)), [], [], [], 0, 0, 0⟩ frm (Con.rightP frm (.mk kr nr lr hr ar cr pr) (Con.leftP frm (.mk kl nl ll hl al cl pl) [])) q27 hq27 (by omega)) rfl (.cons _ (@List.perm_append_comm _ [_] _)) (fun _ _ _ => trivial) rfl fun x => ?_
  obtain ⟨q29, hq29⟩ := x
  have hb29 := ins_len frm (Con.rightP frm (.mk kr nr lr hr ar cr pr) (Con.leftP frm (.mk kl nl ll hl al cl pl) [])) ⟨1, (Con.atom (.mk kl nl ll hl al cl pl)), [], (Con.atom (.mk kr nr lr hr ar cr pr)), [], [], [], 0, 0, 0⟩
  refine ok_perm (@List.perm_append_comm _ _ [_]) ?_
  refine ops_nil (fin_inv rfl (any_next (fun _ a b => ⟨Vw.sat.sub a, b⟩) ?_))
  refine any_done (by kernel_rfl) ?_
  refine fin_end rfl ?_
  have e : Ax.pieces frm ⟨k, op, (.mk kl nl ll hl al cl pl), (.mk kr nr lr hr ar cr pr), ad, cap, rs, ro, a, b⟩ = (ins frm (Con.rightP frm (.mk kr nr lr hr ar cr pr) (Con.leftP frm (.mk kl nl ll hl al cl pl) [])) ⟨1, (Con.atom (.mk kl nl ll hl al cl pl)), [], (Con.atom (.mk kr nr lr hr ar cr pr)), [], [], [], 0, 0, 0⟩) := by
   unfold Ax.pieces
   dsimp only
   repeat (first | rfl | (rw [if_pos (by omega)]) | (rw [if_neg (by omega)]))
  exact end0 Tryz.results40 ⟨q29, by rw [e]; exact hq29⟩ rfl (F := [_]) (@List.perm_append_comm _ [_] _) (fun _ _ _ => trivial)

end Go.Proofs.YtoafjmalfclpoaaGreatDoor

/-
  My own contracts.
-/
namespace Go.Proofs.YtoafjmalfclpoaaGreatDoor
open Go Go.Sx Go.Proofs
set_option linter.unusedVariables false
attribute [local irreducible] Code.wp wpList wpAnyH

open Go.Vs
theorem SRow.form {e : TypeId} {sz n : Nat} {sv : Value} {xs : List Value} {Hr : Hp} (h : SRow e sz sv n xs Hr) : ∃ ad cap, sv = .slice ad n cap := by
  rcases h.2 with ⟨h1, h2, _⟩ | ⟨g, cap, cur, h1, _⟩
  · exact ⟨none, 0, by rw [h1, h2]⟩
  · exact ⟨_, cap, h1⟩

theorem pieces_c (l : List Ax) (ad : Option Addr) (cap : Nat) (hcap : l.length ≤ cap ∧ cap ≤ 2199023255488) (hok : ∀ x ∈ l, x.ok) :
  Tri Tryz.prog 12 #[.slice ad l.length cap] [] [axsF ad l, tabs] (fun y : {y : Option Addr × Nat // (piecesL l).1.length ≤ y.2 ∧ y.2 ≤ maxLen} => .tuple #[.slice y.1.1 (piecesL l).1.length y.1.2, .int .i64 (piecesL l).2]) (fun _ => []) (fun y => [rowF y.1.1 ((piecesL l).1.flatMap Pc.cells)]) := by
 refine tri_of_body Tryz.func12 rfl rfl Tryz.ntmps12 rfl fun v0 => ?_
 refine run_seq (run_region (ops_val (yld_assign rfl) rfl (ops_val (yld_assign rfl) rfl (ops_nil (fin_next rfl (run_seq (run_seq ?_)))))))
 refine run_region (ops_val (yld_move rfl) rfl (ops_val (yld_lenS Tryz.runUnderlying22 rfl) rfl ?_))
 refine ops_valB (yld_gtr rfl rfl) rfl fun r1 hr1 => ?_
 refine ops_nil (fin_next rfl ?_)
 cases r1
 ·
  replace hr1 := of_decide_eq_false hr1
  try dsimp only [Con.kind, Con.parts, Con.name, Con.lo, Con.hi, Con.cap, Con.ad] at hr1
  refine run_cond_f rfl (run_skip (fin_next rfl (run_seq (run_seq (run_region (ops_val (yld_move rfl) rfl (ops_val (yld_lenS Tryz.runUnderlying22 rfl) rfl ?_)))))))
  refine ops_val (yld_move rfl) rfl (ops_nil (fin_next rfl (run_block (ok_fr [(0, .slice ad l.length cap), (2, .slice none 0 0), (13, .slice ad l.length cap), (14, .int .i64 (l.length : Int)), (15, .int .i64 ((0 : Nat) : Int))] ⟨rfl, rfl, rfl, rfl, rfl, trivial⟩ ?_))))
  refine run_loop (ι := {q : Nat // q ≤ l.length ∧ ∀ y ∈ l.take q, y.check = 0}) (fun i => [(0, .slice ad l.length cap), (2, .slice none 0 0), (13, .slice ad l.length cap), (14, .int .i64 (l.length : Int)), (15, .int .i64 (i.1 : Int))]) (fun _ => _) (fun _ => _) (fun i => l.length - i.1) ⟨0, by simp⟩ ?_
  rintro ⟨i, hk⟩
  refine ok_fr [(0, .slice ad l.length cap), (2, .slice none 0 0), (13, .slice ad l.length cap), (14, .int .i64 (l.length : Int)), (15, .int .i64 (i : Int))] ⟨rfl, rfl, rfl, rfl, rfl, trivial⟩ ?_
  refine run_seq (run_region (ops_valB (yld_lss rfl rfl) rfl fun r2 hr2 => ?_))
  refine ops_nil (fin_next rfl (run_seq ?_))
  cases r2
  ·
   replace hr2 := of_decide_eq_false hr2
   try dsimp only [Con.kind, Con.parts, Con.name, Con.lo, Con.hi, Con.cap, Con.ad] at hr2
   obtain rfl : i = l.length := by omega
   try rw [List.take_length] at hk
   refine run_cond_f rfl (run_exit rfl (fin_next rfl (run_seq (run_seq (run_region (ops_val (yld_move rfl) rfl (ops_val (yld_lenS Tryz.runUnderlying22 rfl) rfl ?_)))))))
   refine ops_val (yld_move rfl) rfl (ops_nil (fin_next rfl (run_block ?_)))
   have hall := hk.2
   refine ok_fr [(2, .slice none 0 0), (25, .slice ad l.length cap), (26, .int .i64 (l.length : Int)), (27, .int .i64 ((0 : Nat) : Int))] ⟨rfl, rfl, rfl, rfl, trivial⟩ ?_
   refine run_loop (ι := {x : Nat × List Pc × Value × Hp // x.1 ≤ l.length ∧ SRow 31 10 x.2.2.1 x.2.1.length (x.2.1.flatMap Pc.cells) x.2.2.2 ∧ x.2.1.length ≤ 16384 ∧ gather 0 l [] = gather x.1 (l.drop x.1) x.2.1}) (fun x => [(2, x.1.2.2.1), (25, .slice ad l.length cap), (26, .int .i64 (l.length : Int)), (27, .int .i64 (x.1.1 : Int))]) (fun x => x.1.2.2.2) (fun _ => _) (fun x => l.length - x.1.1) ⟨(0, [], .slice none 0 0, []), by simp, SRow.nil _ _, by simp, rfl⟩ ?_
   clear hk
   rintro ⟨⟨i, p, sv, Hr⟩, hk⟩
   dsimp only at hk
   refine ok_fr [(2, sv), (25, .slice ad l.length cap), (26, .int .i64 (l.length : Int)), (27, .int .i64 (i : Int))] ⟨rfl, rfl, rfl, rfl, trivial⟩ ?_
   refine run_seq (run_region (ops_valB (yld_lss rfl rfl) rfl fun r3 hr3 => ?_))
   refine ops_nil (fin_next rfl (run_seq ?_))
   cases r3
   ·
    replace hr3 := of_decide_eq_false hr3
    try dsimp only [Con.kind, Con.parts, Con.name, Con.lo, Con.hi, Con.cap, Con.ad] at hr3
    obtain rfl : i = l.length := by omega
    try rw [List.take_length] at hk
    refine run_cond_f rfl (run_exit rfl (fin_next rfl (run_seq (run_region (ops_val (yld_move rfl) rfl (ops_val (yld_assign rfl) rfl (ops_val (yld_assign rfl) rfl ?_)))))))
    refine ops_nil (fin_next rfl (run_ret (ok_giveRow hk.2.1 (F := []) (by rw [List.append_nil]) fun ad2 cp2 hsv hc1 hc2 => ?_)))
    have e : piecesL l = (p, 0) := by
     unfold piecesL; rw [if_neg (by omega), if_neg (by simp [firstBad_zero hall]), hk.2.2.2, List.drop_length]; first | done | rfl
    have hy : (piecesL l).1.length ≤ cp2 ∧ cp2 ≤ maxLen := by rw [e]; exact ⟨hc1, hc2⟩
    have hz : Value.tuple #[sv, .int .i64 0] = .tuple #[.slice ad2 (piecesL l).1.length cp2, .int .i64 (piecesL l).2] := by rw [e, hsv]
    have hw : (p.flatMap Pc.cells) = ((piecesL l).1.flatMap Pc.cells) := by rw [e]
    exact ret2 Tryz.results12 ⟨(ad2, cp2), hy⟩ rfl rfl hz (.refl _) (fun v _ h => ⟨hw ▸ h.1, trivial⟩)
   ·
    replace hr3 := of_decide_eq_true hr3
    try dsimp only [Con.kind, Con.parts, Con.name, Con.lo, Con.hi, Con.cap, Con.ad] at hr3
    have hlt : i < l.length := by omega
    obtain ⟨x, hx⟩ : ∃ x, l[i]? = some x := ⟨_, List.getElem?_eq_getElem hlt⟩
    have hxm : x ∈ l := List.mem_of_getElem? hx
    refine run_cond_t rfl (run_skip (fin_next rfl (run_seq (run_block (run_seq ?_)))))
    have G := Ax.good_of (hall x hxm)
    have hpl := pieces_len (i : Int) G
    refine run_region (ops_val (yld_move rfl) rfl (ops_val (yld_indexR Tryz.runUnderlying22 Tryz.sizeOf41 rfl rfl (fun v _ h => row_adr (n := 16) Ax.cells_len (by decide) (h.1.1) hx) (by omega) (by first | omega | (simp only [Con.parts]; omega) | (simp [Con.parts]; done))) rfl ?_))
    refine ops_val (yld_loadRS (ad := ad) (us := x.cells) Tryz.isAgg41 Tryz.sizeOf41 rfl (fun v _ h => h.1.1) (Ax.cells_len _) (row_cells Ax.cells_len hx)) rfl ?_
    refine ops_alloc Tryz.zeroValue41 rfl fun b1 => ?_
    refine ops_val (yld_assign rfl) rfl (ops_storeV (us := x.cells) 0 Tryz.sizeOf41 x.cells_len x.one_cells rfl rfl rfl rfl ?_)
    refine ops_nil (fin_next rfl (run_seq (run_region (ops_val (yld_move rfl) rfl (ops_call (newCollector_c (i : Int)) rfl (.refl _) (fun _ _ _ => trivial) rfl fun ⟨kb, bm⟩ => ?_)))))
    refine ops_val (yld_assign rfl) rfl (ops_nil (fin_next rfl (run_seq (run_region (ops_val (yld_move rfl) rfl (ops_val (yld_loadV (us := x.cells) 2 Tryz.isAgg41 Tryz.sizeOf41 x.cells_len rfl rfl) rfl ?_))))))
    refine ops_call (axiom_c x (hok x hxm) (hall x hxm) (i : Int) ⟨.slice none 0 0, bm, #[], 0, []⟩ ⟨SRow.nil _ _, rfl, by simp⟩) rfl (.refl _) (fun v _ h => ⟨h.1.2 x hxm, h.2.1, trivial⟩) rfl fun y => ?_
    obtain ⟨⟨sv1, bm1, es1, ck1, Hr1⟩, hq⟩ := y
    have hne := hq.row
    dsimp only at hne
    have hn0 : (x.pieces (i : Int)).length ≠ 0 := fun e => Ax.pieces_ne _ G (List.eq_nil_of_length_eq_zero e)
    obtain ⟨g, cp, cur, rfl, rfl, h3, h4, h5, h6⟩ := hne.some hn0
    refine ops_nil (fin_next rfl (run_seq (run_region (ops_val (yld_move rfl) rfl (ops_val (yld_move rfl) rfl (ops_val (yld_nilck rfl) rfl ?_))))))
    refine ops_val (yld_field Tryz.runUnderlying74 rfl rfl rfl Tryz.sizeOf25) rfl ?_
    refine ops_val (yld_load 0 Tryz.isAgg25 rfl rfl rfl) rfl ?_
    refine ops_append elt25 hk.2.1 rfl rfl (@List.perm_append_comm _ [_, _, _, _] _) (by rw [fm_len Pc.cells 10 Pc.cells_len]) (own_newsT 2 rfl h6) (fun u hu => by obtain ⟨y, _, hy⟩ := List.mem_flatMap.1 hu; exact one_all y.cells_one u hy) (by simp only [maxLen]; omega) (by omega) rfl fun sv2 Hr2 hrow => ?_
    refine ok_perm (@List.perm_append_comm _ _ [_, _, _, _]) ?_
    have hln : ∃ ad2 cp2, sv2 = .slice ad2 (p.length + (x.pieces (i : Int)).length) cp2 := SRow.form hrow
    obtain ⟨ad2, cp2, hsv⟩ := hln
    refine ops_val (yld_assign rfl) rfl (ops_nil (fin_next rfl (run_seq (run_region (ops_val (yld_move rfl) rfl (ops_val (yld_lenS (ad := ad2) (len := p.length + (x.pieces (i : Int)).length) (cap := cp2) Tryz.runUnderlying25 (congrArg some hsv)) rfl ?_))))))
    refine ops_valB (yld_gtr rfl rfl) rfl fun r4 hr4 => ?_
    refine ops_nil (fin_next rfl ?_)
    cases r4
    ·
     replace hr4 := of_decide_eq_false hr4
     try dsimp only [Con.kind, Con.parts, Con.name, Con.lo, Con.hi, Con.cap, Con.ad] at hr4
     refine run_cond_f rfl (run_skip (fin_next rfl (run_region (ops_val (yld_arith rfl rfl rfl (wrap64 (by omega) (by omega))) rfl ?_))))
     refine ops_val (yld_move rfl) rfl (ops_nil (fin_inv rfl ?_))
     exact ok_again ⟨(i + 1, p ++ x.pieces (i : Int), sv2, Hr2), hlt, by simpa [List.flatMap_append] using hrow, by simp only [List.length_append]; omega, by rw [hk.2.2.2, drop_of hx]; simp only [gather]; rw [if_neg (by simp only [List.length_append]; omega)]⟩ (by simp; omega) ⟨rfl, rfl, rfl, rfl, trivial⟩ (F := [_, _, _, _]) (@List.perm_append_comm _ [_, _, _, _] _) (fun _ _ h => h)
    ·
     replace hr4 := of_decide_eq_true hr4
     try dsimp only [Con.kind, Con.parts, Con.name, Con.lo, Con.hi, Con.cap, Con.ad] at hr4
     refine run_cond_t rfl (run_seq (run_region (ops_val (yld_assign rfl) rfl (ops_val (yld_assign rfl) rfl (ops_nil (fin_next rfl (run_ret ?_)))))))
     have e : piecesL l = ([], 2) := by unfold piecesL; rw [if_neg (by omega), if_neg (by simp [firstBad_zero hall]), hk.2.2.2, drop_of hx]; simp only [gather]; rw [if_pos (by simp only [List.length_append]; omega)]
     have hy : (piecesL l).1.length ≤ 0 ∧ 0 ≤ maxLen := by rw [e]; simp
     have hz : Value.tuple #[.slice none 0 0, .int .i64 2] = .tuple #[.slice none (piecesL l).1.length 0, .int .i64 (piecesL l).2] := by rw [e] <;> rfl
     have hw : (piecesL l).1.flatMap Pc.cells = [] := by rw [e] <;> rfl
     exact ret2 Tryz.results12 ⟨(none, 0), hy⟩ rfl rfl hz (.refl _) (fun v _ h => ⟨.inl hw, trivial⟩)
  ·
   replace hr2 := of_decide_eq_true hr2
   try dsimp only [Con.kind, Con.parts, Con.name, Con.lo, Con.hi, Con.cap, Con.ad] at hr2
   have hlt : i < l.length := by omega
   obtain ⟨x, hx⟩ : ∃ x, l[i]? = some x := ⟨_, List.getElem?_eq_getElem hlt⟩
   have hxm : x ∈ l := List.mem_of_getElem? hx
   refine run_cond_t rfl (run_skip (fin_next rfl (run_seq (run_block (run_seq (run_region (ops_val (yld_indexR Tryz.runUnderlying22 Tryz.sizeOf41 rfl rfl (fun v _ h => row_adr (n := 16) Ax.cells_len (by decide) (h.1.1) hx) (by omega) (by first | omega | (simp only [Con.parts]; omega) | (simp [Con.parts]; done))) rfl ?_)))))))
   refine ops_val (yld_loadRS (ad := ad) (us := x.cells) Tryz.isAgg41 Tryz.sizeOf41 rfl (fun v _ h => h.1.1) (Ax.cells_len _) (row_cells Ax.cells_len hx)) rfl ?_
   refine ops_alloc Tryz.zeroValue41 rfl fun b2 => ?_
   refine ops_storeV (us := x.cells) 0 Tryz.sizeOf41 x.cells_len x.one_cells rfl rfl rfl rfl ?_
   refine ops_nil (fin_next rfl (run_seq (run_region (ops_val (yld_loadV (us := x.cells) 0 Tryz.isAgg41 Tryz.sizeOf41 x.cells_len rfl rfl) rfl ?_))))
   refine ops_call (checkAxiom_c x (hok x hxm)) rfl (.refl _) (fun v _ h => ⟨h.1.2 x hxm, h.2.1, trivial⟩) rfl fun _ => ?_
   refine ops_val (yld_assign rfl) rfl (ops_nil (fin_next rfl (run_seq (run_region (ops_val (yld_move rfl) rfl (ops_valB (yld_neq rfl rfl) rfl fun r5 hr5 => ?_))))))
   refine ops_nil (fin_next rfl ?_)
   cases r5
   ·
    replace hr5 := eq_of_bne hr5
    try dsimp only [Con.kind, Con.parts, Con.name, Con.lo, Con.hi, Con.cap, Con.ad] at hr5
    refine run_cond_f rfl (run_skip (fin_next rfl (run_region (ops_val (yld_arith rfl rfl rfl (wrap64 (by omega) (by omega))) rfl ?_))))
    refine ops_val (yld_move rfl) rfl (ops_nil (fin_inv rfl ?_))
    exact ok_again ⟨i + 1, hlt, fun y hy => by rw [List.take_add_one, hx] at hy; simp only [Option.toList_some, List.mem_append, List.mem_singleton] at hy; rcases hy with hy | rfl; exact hk.2 y hy; assumption⟩ (by simp; omega) ⟨rfl, rfl, rfl, rfl, rfl, trivial⟩ (@List.perm_append_comm _ [_] _) (fun _ _ h => h)
   ·
    replace hr5 := ne_of_bne hr5
    try dsimp only [Con.kind, Con.parts, Con.name, Con.lo, Con.hi, Con.cap, Con.ad] at hr5
    refine run_cond_t rfl (run_seq (run_region (ops_val (yld_move rfl) rfl (ops_val (yld_assign rfl) rfl (ops_val (yld_assign rfl) rfl (ops_nil (fin_next rfl ?_)))))))
    refine run_ret ?_
    have e : piecesL l = ([], x.check) := by unfold piecesL; rw [if_neg (by omega), firstBad_at hx hk.2 (by assumption), if_pos (by assumption)]
    have hy : (piecesL l).1.length ≤ 0 ∧ 0 ≤ maxLen := by rw [e]; simp
    have hz : Value.tuple #[.slice none 0 0, .int .i64 x.check] = .tuple #[.slice none (piecesL l).1.length 0, .int .i64 (piecesL l).2] := by rw [e] <;> rfl
    have hw : (piecesL l).1.flatMap Pc.cells = [] := by rw [e] <;> rfl
    exact ret2 Tryz.results12 ⟨(none, 0), hy⟩ rfl rfl hz (.refl _) (fun v _ h => ⟨.inl hw, trivial⟩)
 ·
  replace hr1 := of_decide_eq_true hr1
  try dsimp only [Con.kind, Con.parts, Con.name, Con.lo, Con.hi, Con.cap, Con.ad] at hr1
  refine run_cond_t rfl (run_seq (run_region (ops_val (yld_assign rfl) rfl (ops_val (yld_assign rfl) rfl (ops_nil (fin_next rfl (run_ret ?_)))))))
  have e : piecesL l = ([], 2) := by unfold piecesL; rw [if_pos (by omega)]
  have hy : (piecesL l).1.length ≤ 0 ∧ 0 ≤ maxLen := by rw [e]; simp
  have hz : Value.tuple #[.slice none 0 0, .int .i64 2] = .tuple #[.slice none (piecesL l).1.length 0, .int .i64 (piecesL l).2] := by rw [e] <;> rfl
  have hw : (piecesL l).1.flatMap Pc.cells = [] := by rw [e] <;> rfl
  exact ret2 Tryz.results12 ⟨(none, 0), hy⟩ rfl rfl hz (.refl _) (fun v _ h => ⟨.inl hw, trivial⟩)

end Go.Proofs.YtoafjmalfclpoaaGreatDoor

/-
  My own contracts.
-/
namespace Go.Proofs.YtoafjmalfclpoaaGreatDoor
open Go Go.Sx Go.Proofs
set_option linter.unusedVariables false
attribute [local irreducible] Code.wp wpList wpAnyH

open Go.Vs
theorem yld_eqlPc {N : Nat} {fr : Fr} {H : Hp} {Γ : List Fct} {ty t' : TypeId} {x y : Operand} {p q : Pc} (hx : Fr.ev fr x = some p.val) (hy : Fr.ev fr y = some q.val) : Yld Tryz.prog N fr H Γ (.binOp .eql 31 x y t') ty (.bool (decide (p = q))) :=
  fun a v h1 _ _ _ _ _ => by
    have hg : (Program.eqGuardType Tryz.prog Tryz.prog.depth 31) = false := by kernel_rfl
    have he := eqPc p q v.w
    simp only [execOp, h1.ev hx, h1.ev hy, eqGuard, Pc.val, binOp, Op.equal, Sem.run_bind, Result.andThen_ok]
    simp only [run_program, Result.andThen_ok, hg, Bool.not_false, if_true, Sem.run_pure]
    simp only [Pc.val] at he
    simp [Op.maxDepth, he]

theorem yld_neqPc {N : Nat} {fr : Fr} {H : Hp} {Γ : List Fct} {ty t' : TypeId} {x y : Operand} {p q : Pc} (hx : Fr.ev fr x = some p.val) (hy : Fr.ev fr y = some q.val) : Yld Tryz.prog N fr H Γ (.binOp .neq 31 x y t') ty (.bool (decide (p ≠ q))) :=
  fun a v h1 _ _ _ _ _ => by
    have hg : (Program.eqGuardType Tryz.prog Tryz.prog.depth 31) = false := by kernel_rfl
    have he := eqPc p q v.w
    simp only [execOp, h1.ev hx, h1.ev hy, eqGuard, Pc.val, binOp, Op.equal, Sem.run_bind, Result.andThen_ok]
    simp only [run_program, Result.andThen_ok, hg, Bool.not_false, if_true, Sem.run_pure]
    simp only [Pc.val] at he
    simp [Op.maxDepth, he]

theorem yld_eqlFc {N : Nat} {fr : Fr} {H : Hp} {Γ : List Fct} {ty t' : TypeId} {x y : Operand} {p q : Fc} (hx : Fr.ev fr x = some p.val) (hy : Fr.ev fr y = some q.val) : Yld Tryz.prog N fr H Γ (.binOp .eql 50 x y t') ty (.bool (decide (p = q))) :=
  fun a v h1 _ _ _ _ _ => by
    have hg : (Program.eqGuardType Tryz.prog Tryz.prog.depth 50) = false := by kernel_rfl
    have he := eqFc p q v.w
    simp only [execOp, h1.ev hx, h1.ev hy, eqGuard, Fc.val, binOp, Op.equal, Sem.run_bind, Result.andThen_ok]
    simp only [run_program, Result.andThen_ok, hg, Bool.not_false, if_true, Sem.run_pure]
    simp only [Fc.val] at he
    simp [Op.maxDepth, he]

theorem yld_neqFc {N : Nat} {fr : Fr} {H : Hp} {Γ : List Fct} {ty t' : TypeId} {x y : Operand} {p q : Fc} (hx : Fr.ev fr x = some p.val) (hy : Fr.ev fr y = some q.val) : Yld Tryz.prog N fr H Γ (.binOp .neq 50 x y t') ty (.bool (decide (p ≠ q))) :=
  fun a v h1 _ _ _ _ _ => by
    have hg : (Program.eqGuardType Tryz.prog Tryz.prog.depth 50) = false := by kernel_rfl
    have he := eqFc p q v.w
    simp only [execOp, h1.ev hx, h1.ev hy, eqGuard, Fc.val, binOp, Op.equal, Sem.run_bind, Result.andThen_ok]
    simp only [run_program, Result.andThen_ok, hg, Bool.not_false, if_true, Sem.run_pure]
    simp only [Fc.val] at he
    simp [Op.maxDepth, he]

theorem sIndex_one_c (s : Str) (c : UInt8) : Fn0 Tryz.prog 181 #[str s, str [c]] (.int .i64 (Lib.indexByte s c)) :=
  fn0_of_calls (callable Tryz.func181 rfl rfl) fun w => (Tryz.strings_Index_one ⟨s.toArray⟩ c w).mono (by rintro e w' ⟨rfl, rfl⟩; exact ⟨rfl, rfl, rfl, rfl, rfl⟩)
theorem sIndex_some_c (s : Str) (c : UInt8) (k : Nat) (hk : ixS c s = some k) : Fn0 Tryz.prog 181 #[str s, str [c]] (.int .i64 (k : Int)) := by
  have h := sIndex_one_c s c
  rw [ixS_lib, hk] at h
  exact h
theorem sCount_c (s : Str) (c : UInt8) : Fn0 Tryz.prog 180 #[str s, str [c]] (.int .i64 (cntS c s : Int)) :=
  fn0_of_calls (callable Tryz.func180 rfl rfl) fun w => (Tryz.strings_Count_one ⟨s.toArray⟩ c w).mono (by rintro e w' ⟨rfl, rfl⟩; exact ⟨rfl, rfl, rfl, rfl, rfl⟩)

theorem ok_H {N : Nat} {v0 : Vw} {H0 : Hp} {k : Act → World → Prop} {fr : Fr} {H H' : Hp} {Γ : List Fct} (e : H = H') (h : Ok N v0 H0 k fr H' Γ) : Ok N v0 H0 k fr H Γ := e ▸ h

theorem genSplit_c (s : Str) (c : UInt8) (hs : s.length ≤ 17592186044414) : Tri Tryz.prog 162 #[str s, str [c], .int .i64 0, .int .i64 (-1)] [] [] (fun b : Nat => .slice (some ⟨b, 0, none⟩) (splitS c s).length (splitS c s).length) (fun _ => []) (fun b => [rowF (some ⟨b, 0, none⟩) ((splitS c s).flatMap strC)]) := by
 have hcl := cntS_le c s
 refine tri_of_body Tryz.func162 rfl rfl Tryz.ntmps162 rfl fun v0 => ?_
 refine run_seq (run_region (ops_val (yld_assign rfl) rfl (ops_nil (fin_next rfl (run_seq (run_seq (run_region ?_)))))))
 refine ops_val (yld_move rfl) rfl (ops_valB (yld_eql rfl rfl) rfl fun r1 hr1 => ?_)
 refine ops_nil (fin_next rfl ?_)
 cases r1
 ·
  replace hr1 := ne_of_beq_false hr1
  refine run_cond_f rfl (run_skip (fin_next rfl (run_seq (run_seq (run_region (ops_val (yld_move rfl) rfl (ops_valB (yld_seql rfl rfl) rfl fun r2 hr2 => ?_)))))))
  refine ops_nil (fin_next rfl ?_)
  cases r2
  ·
   replace hr2 := ne_of_beq_false hr2
   refine run_cond_f rfl (run_skip (fin_next rfl (run_seq (run_seq (run_region (ops_val (yld_move rfl) rfl (ops_valB (yld_lss rfl rfl) rfl fun r3 hr3 => ?_)))))))
   refine ops_nil (fin_next rfl ?_)
   cases r3
   ·
    replace hr3 := of_decide_eq_false hr3
    exact absurd (by decide) hr3
   ·
    replace hr3 := of_decide_eq_true hr3
    refine run_cond_t rfl (run_region (ops_val (yld_move rfl) rfl (ops_val (yld_move rfl) rfl (ops_call (sCount_c s c) rfl (.refl _) (fun _ _ _ => trivial) rfl fun _ => ?_))))
    refine ops_val (yld_arith rfl rfl rfl (wrap64 (by omega) (by omega))) rfl ?_
    refine ops_val (yld_assign rfl) rfl (ops_nil (fin_next rfl (run_seq (run_region (ops_val (yld_move rfl) rfl (ops_val (yld_move rfl) rfl (ops_val (yld_lenT Tryz.runUnderlying9 rfl) rfl ?_)))))))
    refine ops_val (yld_arith rfl rfl rfl (wrap64 (by omega) (by omega))) rfl ?_
    refine ops_val (yld_eq (yld_min rfl rfl) (show _ = Value.int .i64 ((cntS c s + 1 : Nat) : Int) by rw [if_neg (by omega)]; rfl)) rfl ?_
    refine ops_val (yld_assign rfl) rfl (ops_nil (fin_next rfl (run_seq (run_region (ops_val (yld_move rfl) rfl (ops_make1 (n := cntS c s + 1) (by' := 16) Tryz.underlying39 (z := .string ⟨#[]⟩) (by kernel_rfl) rfl rfl rfl (by omega) (by omega) rfl fun b1 => ?_))))))
    refine ops_val (yld_assign rfl) rfl (ops_nil (fin_next rfl (run_seq (run_region (ops_val (yld_move rfl) rfl (ops_val (yld_eq (yld_arith rfl rfl rfl (wrap64 (by omega) (by omega))) (show _ = Value.int .i64 (cntS c s : Int) by first | rfl | (congr 1; omega))) rfl ?_))))))
    refine ops_val (yld_assign rfl) rfl (ops_nil (fin_next rfl (run_seq (run_region (ops_val (yld_assign rfl) rfl (ops_nil (fin_next rfl ?_)))))))
    refine run_seq (run_block (ok_fr [(0, str s), (1, str [c]), (2, .int .i64 0), (3, .int .i64 (cntS c s : Int)), (9, .slice (some ⟨b1, 0, none⟩) (cntS c s + 1) (cntS c s + 1)), (10, .int .i64 ((0 : Nat) : Int))] ⟨rfl, rfl, rfl, rfl, rfl, rfl, trivial⟩ ?_))
    refine run_loop (ι := {x : Nat × List Str × Str // x.2.1.length = x.1 ∧ splitS c s = x.2.1 ++ splitS c x.2.2 ∧ x.1 + cntS c x.2.2 = cntS c s ∧ x.2.2.length ≤ s.length}) (fun x => [(0, str x.1.2.2), (1, str [c]), (2, .int .i64 0), (3, .int .i64 (cntS c s : Int)), (9, .slice (some ⟨b1, 0, none⟩) (cntS c s + 1) (cntS c s + 1)), (10, .int .i64 (x.1.1 : Int))]) (fun x => [(b1, .cells (x.1.2.1.map str ++ List.replicate (cntS c s + 1 - x.1.1) (Value.string ⟨#[]⟩)).toArray 9 (0, 0))]) (fun _ => _) (fun x => cntS c s - x.1.1) ⟨(0, [], s), rfl, rfl, by simp, by simp⟩ ?_
    rintro ⟨⟨i, dn, r⟩, hk⟩
    dsimp only at hk
    obtain ⟨hk1, hk2, hk3, hk4⟩ := hk
    refine ok_fr [(0, str r), (1, str [c]), (2, .int .i64 0), (3, .int .i64 (cntS c s : Int)), (9, .slice (some ⟨b1, 0, none⟩) (cntS c s + 1) (cntS c s + 1)), (10, .int .i64 (i : Int))] ⟨rfl, rfl, rfl, rfl, rfl, rfl, trivial⟩ ?_
    have hrep : ∀ k, k < cntS c s + 1 → List.replicate (cntS c s + 1 - k) (Value.string ⟨#[]⟩) = Value.string ⟨#[]⟩ :: List.replicate (cntS c s - k) (Value.string ⟨#[]⟩) := fun k hk => by rw [show cntS c s + 1 - k = (cntS c s - k) + 1 by omega]; rfl
    refine ok_H (H' := [(b1, .cells (dn.map str ++ Value.string ⟨#[]⟩ :: List.replicate (cntS c s - i) (Value.string ⟨#[]⟩)).toArray 9 (0, 0))]) (by dsimp only; rw [hrep i (by omega)]) ?_
    refine run_seq (run_seq (run_region (ops_val (yld_move rfl) rfl (ops_val (yld_move rfl) rfl (ops_valB (yld_lss rfl rfl) rfl fun r4 hr4 => ?_)))))
    refine ops_nil (fin_next rfl ?_)
    cases r4
    ·
     replace hr4 := of_decide_eq_false hr4
     obtain rfl : i = cntS c s := by omega
     have hr0 : splitS c r = [r] := by
            cases hx : ixS c r with
            | none => exact splitS_none hx
            | some k => have := cntS_some hx; omega
     rw [hr0] at hk2
     refine run_cond_f rfl (run_exit rfl (fin_next rfl (run_seq (run_region (ops_val (yld_move rfl) rfl (ops_val (yld_move rfl) rfl (ops_val (yld_move rfl) rfl ?_)))))))
     refine ops_val (yld_index Tryz.runUnderlying39 Tryz.sizeOf9 rfl rfl (by omega) (by omega)) rfl ?_
     refine ops_storeL 0 Tryz.sizeOf9 rfl rfl rfl (by simp [hk1]) rfl rfl ?_
     refine ops_nil (fin_next rfl (run_seq (run_region (ops_val (yld_move rfl) rfl (ops_val (yld_move rfl) rfl (ops_val (yld_eq (yld_arith rfl rfl rfl (wrap64 (by omega) (by omega))) (show _ = Value.int .i64 ((cntS c s + 1 : Nat) : Int) by first | rfl | (congr 1; omega))) rfl ?_))))))
     refine ops_val (yld_eq (yld_sliceS (i := 0) (j := cntS c s + 1) (kl := .i64) (kh := .i64) Tryz.runUnderlying39 Tryz.sizeOf9 rfl rfl rfl (by omega) (by omega)) (show _ = Value.slice (some ⟨b1, 0, none⟩) (cntS c s + 1) (cntS c s + 1) by rw [sad_zero]; rfl)) rfl ?_
     refine ops_val (yld_assign rfl) rfl (ops_nil (fin_next rfl (run_ret (ok_giveR ((splitS c s).flatMap strC) pf_here (by rw [hk2, strC_map]; simp) ?_))))
     have hl := splitS_len c s
     exact ret1 Tryz.results162 b1 (get_val rfl (by rw [hl])) (.refl _) (fun v _ h => ⟨h.1, trivial⟩)
    ·
     replace hr4 := of_decide_eq_true hr4
     obtain ⟨k, hix⟩ : ∃ k, ixS c r = some k := by
            cases hx : ixS c r with
            | none => have := cntS_none hx; omega
            | some k => exact ⟨k, rfl⟩
     have hcs := cntS_some hix
     have hkl := ixS_lt hix
     refine run_cond_t rfl (run_skip (fin_next rfl (run_block (run_seq (run_region (ops_val (yld_move rfl) rfl (ops_val (yld_move rfl) rfl ?_)))))))
     refine ops_call (sIndex_some_c r c k hix) rfl (.refl _) (fun _ _ _ => trivial) rfl fun _ => ?_
     refine ops_val (yld_assign rfl) rfl (ops_nil (fin_next rfl (run_seq (run_seq (run_region (ops_val (yld_move rfl) rfl (ops_valB (yld_lss rfl rfl) rfl fun r5 hr5 => ?_)))))))
     refine ops_nil (fin_next rfl ?_)
     cases r5
     ·
      replace hr5 := of_decide_eq_false hr5
      refine run_cond_f rfl (run_skip (fin_next rfl (run_seq (run_region (ops_val (yld_move rfl) rfl (ops_val (yld_move rfl) rfl (ops_val (yld_move rfl) rfl ?_)))))))
      refine ops_val (yld_move rfl) rfl (ops_val (yld_move rfl) rfl (ops_val (yld_eq (yld_arith rfl rfl rfl (wrap64 (by omega) (by omega))) (show _ = Value.int .i64 (k : Int) by first | rfl | (congr 1; omega))) rfl ?_))
      refine ops_val (yld_eq (yld_sliceT (i := 0) (j := k) (kl := .i64) (kh := .i64) Tryz.runUnderlying9 rfl rfl rfl (by omega) (by omega)) (show _ = str (r.take k) by simp)) rfl ?_
      refine ops_val (yld_index Tryz.runUnderlying39 Tryz.sizeOf9 rfl rfl (by omega) (by omega)) rfl ?_
      refine ops_storeL 0 Tryz.sizeOf9 rfl rfl rfl (by simp [hk1]) rfl rfl ?_
      refine ops_nil (fin_next rfl (run_seq (run_region (ops_val (yld_move rfl) rfl (ops_val (yld_move rfl) rfl (ops_val (yld_move rfl) rfl (ops_val (yld_lenT Tryz.runUnderlying9 rfl) rfl ?_)))))))
      refine ops_val (yld_eq (yld_arith rfl rfl rfl (wrap64 (by simp only [List.length_cons, List.length_nil]; omega) (by simp only [List.length_cons, List.length_nil]; omega))) (show _ = Value.int .i64 ((k + 1 : Nat) : Int) by first | rfl | (congr 1; omega))) rfl ?_
      refine ops_val (yld_eq (yld_sliceT (i := k + 1) (j := r.length) (kl := .i64) (kh := .i64) Tryz.runUnderlying9 rfl rfl rfl (by omega) (by omega)) (show _ = str (r.drop (k + 1)) by rw [List.take_of_length_le (by simp)])) rfl ?_
      refine ops_val (yld_assign rfl) rfl (ops_nil (fin_next rfl (run_region (ops_val (yld_move rfl) rfl (ops_val (yld_eq (yld_arith rfl rfl rfl (wrap64 (by omega) (by omega))) (show _ = Value.int .i64 ((i + 1 : Nat) : Int) by first | rfl | (congr 1; omega))) rfl ?_)))))
      refine ops_val (yld_assign rfl) rfl (ops_nil (fin_inv rfl ?_))
      exact ok_again ⟨(i + 1, dn ++ [r.take k], r.drop (k + 1)), by simp [hk1], by rw [hk2, splitS_some hix, List.append_assoc]; rfl, by dsimp only; omega, by simp; omega⟩ (by dsimp only; omega) ⟨rfl, rfl, rfl, rfl, rfl, rfl, trivial⟩ (F := []) (List.Perm.of_eq (by simp [show cntS c s + 1 - (i + 1) = cntS c s - i by omega])) (fun _ _ h => h)
     ·
      replace hr5 := of_decide_eq_true hr5
      exfalso; omega
  ·
   replace hr2 := eq_of_beq hr2
   cases hr2
 ·
  replace hr1 := eq_of_beq hr1
  exact absurd hr1 (by decide)

theorem split_c (s : Str) (c : UInt8) (hs : s.length ≤ 17592186044414) : Tri Tryz.prog 129 #[str s, str [c]] [] [] (fun b : Nat => .slice (some ⟨b, 0, none⟩) (splitS c s).length (splitS c s).length) (fun _ => []) (fun b => [rowF (some ⟨b, 0, none⟩) ((splitS c s).flatMap strC)]) := by
  refine tri_of_body Tryz.func129 rfl rfl Tryz.ntmps129 rfl fun v0 => ?_
  refine run_seq (run_region (ops_val (yld_assign rfl) rfl (ops_nil (fin_next rfl (run_seq (run_region (ops_val (yld_move rfl) rfl ?_)))))))
  refine ops_val (yld_move rfl) rfl (ops_call (genSplit_c s c hs) rfl (.refl _) (fun _ _ _ => trivial) rfl fun b => ?_)
  refine ops_val (yld_assign rfl) rfl (ops_nil (fin_next rfl (run_ret ?_)))
  exact ret1 Tryz.results129 b rfl (.refl _) (fun v _ h => ⟨h.1, trivial⟩)

end Go.Proofs.YtoafjmalfclpoaaGreatDoor

/-
  My own contracts.
-/
namespace Go.Proofs.YtoafjmalfclpoaaGreatDoor
open Go Go.Sx Go.Proofs
set_option linter.unusedVariables false
attribute [local irreducible] Code.wp wpList wpAnyH

open Go.Vs
theorem indexFuncS_c {g : FuncId} {pred : Str → Bool} (xs : List Str) (ad : Option Addr) (cap : Nat) (hlen : xs.length ≤ 17592186044415) (hT : ∀ x ∈ xs, Fn0 Tryz.prog g #[str x] (.bool (pred x))) :
    Tri Tryz.prog 163 #[.slice ad (List.length xs) cap, .func (.func g) #[] #[]] [] [rowF ad (List.flatMap strC xs)] (fun r : {r : Int // decide (0 ≤ r) = xs.any pred} => .int .i64 r.1) (fun _ => []) (fun _ => []) := by
  refine tri_of_body Tryz.func163 rfl rfl Tryz.ntmps163 rfl fun v0 => ?_
  refine run_seq (run_region (ops_val (yld_assign rfl) rfl (ops_nil (fin_next rfl (run_seq (run_seq (run_region ?_)))))))
  refine ops_val (yld_move rfl) rfl (ops_val (yld_lenS Tryz.runUnderlying39 rfl) rfl ?_)
  refine ops_val (yld_move rfl) rfl (ops_nil (fin_next rfl (run_block (ok_fr [(0, .slice ad (List.length xs) cap), (1, .func (.func g) #[] #[]), (7, .int .i64 (List.length xs : Int)), (8, .int .i64 ((0 : Nat) : Int))] ⟨rfl, rfl, rfl, rfl, trivial⟩ ?_))))
  refine run_loop (ι := {q : Nat // q ≤ xs.length ∧ (xs.take q).any pred = false}) (fun i => [(0, .slice ad (List.length xs) cap), (1, .func (.func g) #[] #[]), (7, .int .i64 (List.length xs : Int)), (8, .int .i64 (i.1 : Int))]) (fun _ => _) (fun _ => _) (fun i => xs.length - i.1) ⟨0, by simp⟩ ?_
  rintro ⟨i, hk⟩
  refine ok_fr [(0, .slice ad (List.length xs) cap), (1, .func (.func g) #[] #[]), (7, .int .i64 (List.length xs : Int)), (8, .int .i64 (i : Int))] ⟨rfl, rfl, rfl, rfl, trivial⟩ ?_
  refine run_seq (run_region (ops_valB (yld_lss rfl rfl) rfl fun r1 hr1 => ?_))
  refine ops_nil (fin_next rfl (run_seq ?_))
  cases r1
  · skip
    replace hr1 := of_decide_eq_false hr1
    refine run_cond_f rfl (run_exit rfl (fin_next rfl (run_seq (run_region (ops_val (yld_assign rfl) rfl (ops_nil (fin_next rfl ?_)))))))
    refine run_ret ?_
    exact ret1 Tryz.results163 ⟨-1, by have := hk.2; rw [List.take_of_length_le (by omega)] at this; show _ = xs.any pred; rw [this]; rfl⟩ rfl (.refl _) (fun _ _ _ => trivial)
  · skip
    replace hr1 := of_decide_eq_true hr1
    have hlx1 : i < List.length xs := by omega
    obtain ⟨x1, hx1⟩ : ∃ e0, xs[i]? = some e0 := ⟨_, List.getElem?_eq_getElem hlx1⟩
    have hmx1 : x1 ∈ xs := List.mem_of_getElem? hx1
    refine run_cond_t rfl (run_skip (fin_next rfl (run_seq (run_block (run_seq (run_region (ops_val (yld_move rfl) rfl ?_)))))))
    refine ops_val (yld_assign rfl) rfl (ops_nil (fin_next rfl (run_seq (run_region (ops_val (yld_move rfl) rfl (ops_val (yld_move rfl) rfl (ops_val (yld_move rfl) rfl ?_)))))))
    refine ops_val (yld_indexR Tryz.runUnderlying39 Tryz.sizeOf9 rfl rfl (fun v _ h => row_adr (n := 1) strC_len (by decide) (by exact h.1) hx1) (by omega) (by first | omega | (simp; done))) rfl ?_
    refine ops_val (yld_loadR (ad := ad) Tryz.isAgg9 rfl (fun v _ h => by exact h.1) (row_cells strC_len hx1 0 _ rfl)) rfl ?_
    refine ops_calldB (hT x1 hmx1) rfl rfl pf_nil (fun _ _ _ => by exact trivial) rfl fun r2 hr2 => ?_
    refine ops_nil (fin_next rfl ?_)
    cases r2
    · skip
      refine run_cond_f rfl (run_skip (fin_next rfl (run_region (ops_val (yld_arith rfl rfl rfl (wrap64 (by omega) (by omega))) rfl ?_))))
      refine ops_val (yld_move rfl) rfl (ops_nil (fin_inv rfl ?_))
      exact ok_again ⟨i + 1, hlx1, by rw [List.take_add_one, hx1]; simp only [Option.toList_some, List.any_append, hk.2]; simp [*]⟩ (by simp; omega) ⟨rfl, rfl, rfl, rfl, trivial⟩ (.refl _) (fun _ _ h => h)
    · skip
      refine run_cond_t rfl (run_seq (run_region (ops_val (yld_move rfl) rfl (ops_val (yld_assign rfl) rfl (ops_nil (fin_next rfl (run_ret ?_)))))))
      exact ret1 Tryz.results163 ⟨(i : Int), by show _ = xs.any pred; rw [show xs.any pred = true from List.any_eq_true.2 ⟨x1, hmx1, by assumption⟩]; exact decide_eq_true (by omega)⟩ rfl (.refl _) (fun _ _ _ => trivial)

theorem containsFuncS_c {g : FuncId} {pred : Str → Bool} (xs : List Str) (ad : Option Addr) (cap : Nat) (hlen : xs.length ≤ 17592186044415) (hT : ∀ x ∈ xs, Fn0 Tryz.prog g #[str x] (.bool (pred x))) :
    Tri Tryz.prog 130 #[.slice ad (List.length xs) cap, .func (.func g) #[] #[]] [] [rowF ad (List.flatMap strC xs)] (fun _ : Unit => .bool (xs.any pred)) (fun _ => []) (fun _ => []) := by
  refine tri_of_body Tryz.func130 rfl rfl Tryz.ntmps130 rfl fun v0 => ?_
  refine run_seq (run_region (ops_val (yld_assign rfl) rfl (ops_nil (fin_next rfl (run_seq (run_region (ops_val (yld_move rfl) rfl ?_)))))))
  refine ops_val (yld_move rfl) rfl (ops_call (indexFuncS_c xs ad cap hlen hT) rfl pf_nil (fun v _ h => by exact ⟨h.1, trivial⟩) rfl fun x => ?_)
  refine ops_valB (yld_geq rfl rfl) rfl fun r1 hr1 => ?_
  refine ops_val (yld_assign rfl) rfl (ops_nil (fin_next rfl (run_ret ?_)))
  exact ret1 Tryz.results130 () (get_bool rfl (hr1.symm.trans x.2)) (.refl _) (fun _ _ _ => trivial)

theorem isRole1_c (s : Str) (hs : s.length ≤ 140737488351232) : Fn0 Tryz.prog 131 #[str s] (.bool (!personS s)) := by
  refine tri_of_body Tryz.func131 rfl rfl Tryz.ntmps131 rfl fun v0 => ?_
  refine run_seq (run_region (ops_val (yld_assign rfl) rfl (ops_nil (fin_next rfl (run_seq (run_region (ops_val (yld_move rfl) rfl ?_)))))))
  refine ops_callB (isName_c s hs) rfl pf_nil (fun _ _ _ => by exact trivial) rfl fun r1 hr1 => ?_
  refine ops_val (yld_not rfl) rfl ?_
  refine ops_val (yld_assign rfl) rfl (ops_nil (fin_next rfl (run_ret ?_)))
  exact ret1 Tryz.results131 () (get_bool rfl (by simp [*])) (.refl _) (fun _ _ _ => trivial)

theorem splitS_mem {c : UInt8} : ∀ {s x : Str}, x ∈ splitS c s → x.length ≤ s.length
  | [], x, h => by simp [splitS] at h; simp [h]
  | b :: s, x, h => by
    simp only [splitS] at h
    split at h
    · rcases List.mem_cons.1 h with rfl | h
      · simp
      · have := splitS_mem h; simp only [List.length_cons]; omega
    · cases hs : splitS c s with
      | nil => exact absurd hs (splitS_ne c s)
      | cons y t =>
        rw [hs] at h
        rcases List.mem_cons.1 h with rfl | h
        · have := splitS_mem (c := c) (s := s) (x := y) (by rw [hs]; simp); simp only [List.length_cons]; omega
        · have := splitS_mem (c := c) (s := s) (x := x) (by rw [hs]; simp [h]); simp only [List.length_cons]; omega

theorem isRole_c (s : Str) (hs : s.length ≤ 17592186044414) : Fn0 Tryz.prog 72 #[str s] (.bool (roleS s)) := by
  refine tri_of_body Tryz.func72 rfl rfl Tryz.ntmps72 rfl fun v0 => ?_
  have hsl := splitS_len 46 s
  have hcl := cntS_le 46 s
  refine run_seq (run_region (ops_val (yld_assign rfl) rfl (ops_nil (fin_next rfl (run_seq (run_region (ops_val (yld_move rfl) rfl ?_)))))))
  refine ops_call (split_c s 46 hs) rfl pf_nil (fun _ _ _ => by exact trivial) rfl fun b => ?_
  refine ops_val (yld_assign rfl) rfl (ops_nil (fin_next rfl (run_seq (run_region (ops_val (yld_move rfl) rfl (ops_val (yld_lenS Tryz.runUnderlying39 rfl) rfl ?_))))))
  refine ops_valB (yld_leq rfl rfl) rfl fun r1 hr1 => ?_
  refine ops_val (yld_move rfl) rfl ?_
  cases r1
  · skip
    replace hr1 := of_decide_eq_false hr1
    refine ops_no rfl rfl rfl rfl (ops_no rfl rfl rfl rfl (ops_no rfl rfl rfl rfl (ops_val (yld_pick_f rfl rfl) rfl ?_)))
    refine ops_val (yld_assign rfl) rfl (ops_nil (fin_next rfl (run_ret ?_)))
    exact ret1 Tryz.results72 () (get_bool rfl (by unfold roleS; subst_vars; rw [Bool.eq_iff_iff]; simp_all <;> omega)) (.refl _) (fun _ _ _ => trivial)
  · skip
    replace hr1 := of_decide_eq_true hr1
    refine ops_yes rfl rfl (ops_val (yld_move rfl) rfl (ops_yes rfl rfl (ops_callB (containsFuncS_c (pred := fun r => !personS r) (splitS 46 s) _ _ (by omega) (fun x hx => isRole1_c x (by have := splitS_mem hx; omega))) rfl pf_nil (fun v _ h => by exact ⟨h.1, trivial⟩) rfl fun r2 hr2 => ?_)))
    refine ops_yes rfl rfl (ops_val (yld_not rfl) rfl ?_)
    refine ops_val (yld_pick_t rfl rfl) rfl ?_
    refine ops_val (yld_assign rfl) rfl (ops_nil (fin_next rfl (run_ret ?_)))
    exact ret1 Tryz.results72 () (get_bool rfl (by unfold roleS; subst_vars; rw [Bool.eq_iff_iff]; simp_all <;> omega)) (.refl _) (fun _ _ _ => trivial)

theorem isAtom_c (s : Str) (hs : s.length ≤ 140737488351232) : Fn0 Tryz.prog 74 #[str s] (.bool (atomS s)) := by
 refine tri_of_body Tryz.func74 rfl rfl Tryz.ntmps74 rfl fun v0 => ?_
 refine run_seq (run_region (ops_val (yld_assign rfl) rfl (ops_nil (fin_next rfl (run_seq (run_region (ops_val (yld_move rfl) rfl ?_)))))))
 refine ops_val (yld_lenT Tryz.runUnderlying9 rfl) rfl ?_
 refine ops_val (yld_assign rfl) rfl (ops_nil (fin_next rfl (run_seq (run_block (run_seq (run_region (ops_val (yld_move rfl) rfl ?_)))))))
 refine ops_valB (yld_seql rfl rfl) rfl fun r1 hr1 => ?_
 refine ops_val (yld_move rfl) rfl ?_
 cases r1
 ·
  replace hr1 := ne_of_beq_false hr1
  refine ops_yes rfl rfl (ops_val (yld_move rfl) rfl (ops_yes rfl rfl (ops_valB (yld_seql rfl rfl) rfl fun r2 hr2 => ?_)))
  refine ops_val (yld_pick_f rfl rfl) rfl ?_
  refine ops_val (yld_assign rfl) rfl (ops_nil (fin_next rfl ?_))
  cases r2
  ·
   replace hr2 := ne_of_beq_false hr2
   refine run_cond_f rfl (run_seq (run_region (ops_val (yld_move rfl) rfl (ops_valB (yld_geq rfl rfl) rfl fun r3 hr3 => ?_))))
   refine ops_val (yld_move rfl) rfl ?_
   cases r3
   ·
    replace hr3 := of_decide_eq_false hr3
    refine ops_no rfl rfl rfl rfl (ops_no rfl rfl rfl rfl (ops_no rfl rfl rfl rfl (ops_val (yld_pick_f rfl rfl) rfl ?_)))
    refine ops_val (yld_move rfl) rfl (ops_no rfl rfl rfl rfl (ops_no rfl rfl rfl rfl (ops_no rfl rfl rfl rfl (ops_no rfl rfl rfl rfl (ops_no rfl rfl rfl rfl (ops_val (yld_pick_f rfl rfl) rfl ?_))))))
    refine ops_val (yld_assign rfl) rfl (ops_nil (fin_next rfl (run_cond_f rfl (run_seq (run_region (ops_val (yld_move rfl) rfl (ops_valB (yld_geq rfl rfl) rfl fun r4 hr4 => ?_)))))))
    refine ops_val (yld_move rfl) rfl ?_
    cases r4
    ·
     replace hr4 := of_decide_eq_false hr4
     refine ops_no rfl rfl rfl rfl (ops_no rfl rfl rfl rfl (ops_no rfl rfl rfl rfl (ops_val (yld_pick_f rfl rfl) rfl ?_)))
     refine ops_val (yld_move rfl) rfl (ops_no rfl rfl rfl rfl (ops_no rfl rfl rfl rfl (ops_no rfl rfl rfl rfl (ops_no rfl rfl rfl rfl (ops_no rfl rfl rfl rfl (ops_val (yld_pick_f rfl rfl) rfl ?_))))))
     refine ops_val (yld_assign rfl) rfl (ops_nil (fin_next rfl (run_cond_f rfl (run_skip (fin_next rfl (run_seq (run_region ?_)))))))
     refine ops_val (yld_move rfl) rfl (ops_callB (isName_c _ (by first | exact hs | (simp; omega))) rfl pf_nil (fun _ _ _ => by exact trivial) rfl fun r5 hr5 => ?_)
     refine ops_val (yld_assign rfl) rfl (ops_nil (fin_next rfl (run_ret ?_)))
     exact ret1 Tryz.results74 () (get_bool rfl (by unfold atomS; (repeat (any_goals split)) <;> first | rfl | (simp_all; done) | (exfalso; simp_all; omega) | (exfalso; simp_all; done))) (.refl _) (fun _ _ _ => trivial)
    ·
     replace hr4 := of_decide_eq_true hr4
     exfalso; omega
   ·
    replace hr3 := of_decide_eq_true hr3
    obtain ⟨c, hc⟩ : ∃ c, s[0]? = some c := ⟨_, List.getElem?_eq_getElem (by omega)⟩
    obtain ⟨e, he⟩ : ∃ e, s[s.length - 1]? = some e := ⟨_, List.getElem?_eq_getElem (by omega)⟩
    have hc123 : (s[0]? = some 123) ↔ ((c.toNat : Int) = 123) := by
              rw [hc]; simp only [Option.some.injEq]; exact ⟨fun q => by subst q; rfl, fun q => UInt8.toNat_inj.1 (by show c.toNat = 123; omega)⟩
    have he125 : (s[s.length - 1]? = some 125) ↔ ((e.toNat : Int) = 125) := by
              rw [he]; simp only [Option.some.injEq]; exact ⟨fun q => by subst q; rfl, fun q => UInt8.toNat_inj.1 (by show e.toNat = 125; omega)⟩
    have hc60 : (s[0]? = some 60) ↔ ((c.toNat : Int) = 60) := by
              rw [hc]; simp only [Option.some.injEq]; exact ⟨fun q => by subst q; rfl, fun q => UInt8.toNat_inj.1 (by show c.toNat = 60; omega)⟩
    have he62 : (s[s.length - 1]? = some 62) ↔ ((e.toNat : Int) = 62) := by
              rw [he]; simp only [Option.some.injEq]; exact ⟨fun q => by subst q; rfl, fun q => UInt8.toNat_inj.1 (by show e.toNat = 62; omega)⟩
    refine ops_yes rfl rfl (ops_val (yld_move rfl) rfl (ops_yes rfl rfl (ops_val (yld_indexT Tryz.runUnderlying9 rfl rfl (by decide) hc) rfl ?_)))
    refine ops_yes rfl rfl (ops_valB (yld_eql rfl rfl) rfl fun r6 hr6 => ?_)
    refine ops_val (yld_pick_t rfl rfl) rfl ?_
    refine ops_val (yld_move rfl) rfl ?_
    cases r6
    ·
     replace hr6 := ne_of_beq_false hr6
     refine ops_no rfl rfl rfl rfl (ops_no rfl rfl rfl rfl (ops_no rfl rfl rfl rfl (ops_no rfl rfl rfl rfl (ops_no rfl rfl rfl rfl (ops_val (yld_pick_f rfl rfl) rfl ?_)))))
     refine ops_val (yld_assign rfl) rfl (ops_nil (fin_next rfl (run_cond_f rfl (run_seq (run_region (ops_val (yld_move rfl) rfl (ops_valB (yld_geq rfl rfl) rfl fun r7 hr7 => ?_)))))))
     refine ops_val (yld_move rfl) rfl ?_
     cases r7
     ·
      replace hr7 := of_decide_eq_false hr7
      refine ops_no rfl rfl rfl rfl (ops_no rfl rfl rfl rfl (ops_no rfl rfl rfl rfl (ops_val (yld_pick_f rfl rfl) rfl ?_)))
      refine ops_val (yld_move rfl) rfl (ops_no rfl rfl rfl rfl (ops_no rfl rfl rfl rfl (ops_no rfl rfl rfl rfl (ops_no rfl rfl rfl rfl (ops_no rfl rfl rfl rfl (ops_val (yld_pick_f rfl rfl) rfl ?_))))))
      refine ops_val (yld_assign rfl) rfl (ops_nil (fin_next rfl (run_cond_f rfl (run_skip (fin_next rfl (run_seq (run_region ?_)))))))
      refine ops_val (yld_move rfl) rfl (ops_callB (isName_c _ (by first | exact hs | (simp; omega))) rfl pf_nil (fun _ _ _ => by exact trivial) rfl fun r8 hr8 => ?_)
      refine ops_val (yld_assign rfl) rfl (ops_nil (fin_next rfl (run_ret ?_)))
      exact ret1 Tryz.results74 () (get_bool rfl (by unfold atomS; (repeat (any_goals split)) <;> first | rfl | (simp_all; done) | (exfalso; simp_all; omega) | (exfalso; simp_all; done))) (.refl _) (fun _ _ _ => trivial)
     ·
      replace hr7 := of_decide_eq_true hr7
      refine ops_yes rfl rfl (ops_val (yld_move rfl) rfl (ops_yes rfl rfl (ops_val (yld_indexT Tryz.runUnderlying9 rfl rfl (by decide) hc) rfl ?_)))
      refine ops_yes rfl rfl (ops_valB (yld_eql rfl rfl) rfl fun r9 hr9 => ?_)
      refine ops_val (yld_pick_t rfl rfl) rfl ?_
      refine ops_val (yld_move rfl) rfl ?_
      cases r9
      ·
       replace hr9 := ne_of_beq_false hr9
       refine ops_no rfl rfl rfl rfl (ops_no rfl rfl rfl rfl (ops_no rfl rfl rfl rfl (ops_no rfl rfl rfl rfl (ops_no rfl rfl rfl rfl (ops_val (yld_pick_f rfl rfl) rfl ?_)))))
       refine ops_val (yld_assign rfl) rfl (ops_nil (fin_next rfl (run_cond_f rfl (run_skip (fin_next rfl (run_seq (run_region ?_)))))))
       refine ops_val (yld_move rfl) rfl (ops_callB (isName_c _ (by first | exact hs | (simp; omega))) rfl pf_nil (fun _ _ _ => by exact trivial) rfl fun r10 hr10 => ?_)
       refine ops_val (yld_assign rfl) rfl (ops_nil (fin_next rfl (run_ret ?_)))
       exact ret1 Tryz.results74 () (get_bool rfl (by unfold atomS; (repeat (any_goals split)) <;> first | rfl | (simp_all; done) | (exfalso; simp_all; omega) | (exfalso; simp_all; done))) (.refl _) (fun _ _ _ => trivial)
      ·
       replace hr9 := eq_of_beq hr9
       refine ops_yes rfl rfl (ops_val (yld_move rfl) rfl (ops_yes rfl rfl (ops_val (yld_move rfl) rfl (ops_yes rfl rfl (ops_val (yld_arith rfl rfl rfl (wrap64 (by omega) (by omega))) rfl ?_)))))
       refine ops_yes rfl rfl (ops_val (yld_indexT Tryz.runUnderlying9 rfl rfl (by omega) (show s[((s.length : Int) - 1).toNat]? = some e by rw [show ((s.length : Int) - 1).toNat = s.length - 1 by omega]; exact he)) rfl ?_)
       refine ops_yes rfl rfl (ops_valB (yld_eql rfl rfl) rfl fun r11 hr11 => ?_)
       refine ops_val (yld_pick_t rfl rfl) rfl ?_
       refine ops_val (yld_assign rfl) rfl (ops_nil (fin_next rfl ?_))
       cases r11
       ·
        replace hr11 := ne_of_beq_false hr11
        refine run_cond_f rfl (run_skip (fin_next rfl (run_seq (run_region (ops_val (yld_move rfl) rfl (ops_callB (isName_c _ (by first | exact hs | (simp; omega))) rfl pf_nil (fun _ _ _ => by exact trivial) rfl fun r12 hr12 => ?_))))))
        refine ops_val (yld_assign rfl) rfl (ops_nil (fin_next rfl (run_ret ?_)))
        exact ret1 Tryz.results74 () (get_bool rfl (by unfold atomS; (repeat (any_goals split)) <;> first | rfl | (simp_all; done) | (exfalso; simp_all; omega) | (exfalso; simp_all; done))) (.refl _) (fun _ _ _ => trivial)
       ·
        replace hr11 := eq_of_beq hr11
        refine run_cond_t rfl (run_seq (run_region (ops_val (yld_assign rfl) rfl (ops_nil (fin_next rfl (run_ret ?_))))))
        exact ret1 Tryz.results74 () (get_bool rfl (by unfold atomS; (repeat (any_goals split)) <;> first | rfl | (simp_all; done) | (exfalso; simp_all; omega) | (exfalso; simp_all; done))) (.refl _) (fun _ _ _ => trivial)
    ·
     replace hr6 := eq_of_beq hr6
     refine ops_yes rfl rfl (ops_val (yld_move rfl) rfl (ops_yes rfl rfl (ops_val (yld_move rfl) rfl (ops_yes rfl rfl (ops_val (yld_arith rfl rfl rfl (wrap64 (by omega) (by omega))) rfl ?_)))))
     refine ops_yes rfl rfl (ops_val (yld_indexT Tryz.runUnderlying9 rfl rfl (by omega) (show s[((s.length : Int) - 1).toNat]? = some e by rw [show ((s.length : Int) - 1).toNat = s.length - 1 by omega]; exact he)) rfl ?_)
     refine ops_yes rfl rfl (ops_valB (yld_eql rfl rfl) rfl fun r13 hr13 => ?_)
     refine ops_val (yld_pick_t rfl rfl) rfl ?_
     refine ops_val (yld_assign rfl) rfl (ops_nil (fin_next rfl ?_))
     cases r13
     ·
      replace hr13 := ne_of_beq_false hr13
      refine run_cond_f rfl (run_seq (run_region (ops_val (yld_move rfl) rfl (ops_valB (yld_geq rfl rfl) rfl fun r14 hr14 => ?_))))
      refine ops_val (yld_move rfl) rfl ?_
      cases r14
      ·
       replace hr14 := of_decide_eq_false hr14
       refine ops_no rfl rfl rfl rfl (ops_no rfl rfl rfl rfl (ops_no rfl rfl rfl rfl (ops_val (yld_pick_f rfl rfl) rfl ?_)))
       refine ops_val (yld_move rfl) rfl (ops_no rfl rfl rfl rfl (ops_no rfl rfl rfl rfl (ops_no rfl rfl rfl rfl (ops_no rfl rfl rfl rfl (ops_no rfl rfl rfl rfl (ops_val (yld_pick_f rfl rfl) rfl ?_))))))
       refine ops_val (yld_assign rfl) rfl (ops_nil (fin_next rfl (run_cond_f rfl (run_skip (fin_next rfl (run_seq (run_region ?_)))))))
       refine ops_val (yld_move rfl) rfl (ops_callB (isName_c _ (by first | exact hs | (simp; omega))) rfl pf_nil (fun _ _ _ => by exact trivial) rfl fun r15 hr15 => ?_)
       refine ops_val (yld_assign rfl) rfl (ops_nil (fin_next rfl (run_ret ?_)))
       exact ret1 Tryz.results74 () (get_bool rfl (by unfold atomS; (repeat (any_goals split)) <;> first | rfl | (simp_all; done) | (exfalso; simp_all; omega) | (exfalso; simp_all; done))) (.refl _) (fun _ _ _ => trivial)
      ·
       replace hr14 := of_decide_eq_true hr14
       refine ops_yes rfl rfl (ops_val (yld_move rfl) rfl (ops_yes rfl rfl (ops_val (yld_indexT Tryz.runUnderlying9 rfl rfl (by decide) hc) rfl ?_)))
       refine ops_yes rfl rfl (ops_valB (yld_eql rfl rfl) rfl fun r16 hr16 => ?_)
       refine ops_val (yld_pick_t rfl rfl) rfl ?_
       refine ops_val (yld_move rfl) rfl ?_
       cases r16
       ·
        replace hr16 := ne_of_beq_false hr16
        refine ops_no rfl rfl rfl rfl (ops_no rfl rfl rfl rfl (ops_no rfl rfl rfl rfl (ops_no rfl rfl rfl rfl (ops_no rfl rfl rfl rfl (ops_val (yld_pick_f rfl rfl) rfl ?_)))))
        refine ops_val (yld_assign rfl) rfl (ops_nil (fin_next rfl (run_cond_f rfl (run_skip (fin_next rfl (run_seq (run_region ?_)))))))
        refine ops_val (yld_move rfl) rfl (ops_callB (isName_c _ (by first | exact hs | (simp; omega))) rfl pf_nil (fun _ _ _ => by exact trivial) rfl fun r17 hr17 => ?_)
        refine ops_val (yld_assign rfl) rfl (ops_nil (fin_next rfl (run_ret ?_)))
        exact ret1 Tryz.results74 () (get_bool rfl (by unfold atomS; (repeat (any_goals split)) <;> first | rfl | (simp_all; done) | (exfalso; simp_all; omega) | (exfalso; simp_all; done))) (.refl _) (fun _ _ _ => trivial)
       ·
        replace hr16 := eq_of_beq hr16
        refine ops_yes rfl rfl (ops_val (yld_move rfl) rfl (ops_yes rfl rfl (ops_val (yld_move rfl) rfl (ops_yes rfl rfl (ops_val (yld_arith rfl rfl rfl (wrap64 (by omega) (by omega))) rfl ?_)))))
        refine ops_yes rfl rfl (ops_val (yld_indexT Tryz.runUnderlying9 rfl rfl (by omega) (show s[((s.length : Int) - 1).toNat]? = some e by rw [show ((s.length : Int) - 1).toNat = s.length - 1 by omega]; exact he)) rfl ?_)
        refine ops_yes rfl rfl (ops_valB (yld_eql rfl rfl) rfl fun r18 hr18 => ?_)
        refine ops_val (yld_pick_t rfl rfl) rfl ?_
        refine ops_val (yld_assign rfl) rfl (ops_nil (fin_next rfl ?_))
        cases r18
        ·
         replace hr18 := ne_of_beq_false hr18
         refine run_cond_f rfl (run_skip (fin_next rfl (run_seq (run_region (ops_val (yld_move rfl) rfl (ops_callB (isName_c _ (by first | exact hs | (simp; omega))) rfl pf_nil (fun _ _ _ => by exact trivial) rfl fun r19 hr19 => ?_))))))
         refine ops_val (yld_assign rfl) rfl (ops_nil (fin_next rfl (run_ret ?_)))
         exact ret1 Tryz.results74 () (get_bool rfl (by unfold atomS; (repeat (any_goals split)) <;> first | rfl | (simp_all; done) | (exfalso; simp_all; omega) | (exfalso; simp_all; done))) (.refl _) (fun _ _ _ => trivial)
        ·
         replace hr18 := eq_of_beq hr18
         refine run_cond_t rfl (run_seq (run_region (ops_val (yld_assign rfl) rfl (ops_nil (fin_next rfl (run_ret ?_))))))
         exact ret1 Tryz.results74 () (get_bool rfl (by unfold atomS; (repeat (any_goals split)) <;> first | rfl | (simp_all; done) | (exfalso; simp_all; omega) | (exfalso; simp_all; done))) (.refl _) (fun _ _ _ => trivial)
     ·
      replace hr13 := eq_of_beq hr13
      refine run_cond_t rfl (run_seq (run_region (ops_val (yld_move rfl) rfl (ops_val (yld_move rfl) rfl (ops_val (yld_arith rfl rfl rfl (wrap64 (by omega) (by omega))) rfl ?_)))))
      refine ops_val (yld_sliceT (i := 1) (j := s.length - 1) (kl := .i64) (kh := .i64) Tryz.runUnderlying9 rfl rfl (show _ = some (Value.int .i64 ((s.length - 1 : Nat) : Int)) by rw [show ((s.length - 1 : Nat) : Int) = (s.length : Int) - 1 by omega]; rfl) (by omega) (by omega)) rfl ?_
      refine ops_callB (isName_c _ (by first | exact hs | (simp; omega))) rfl pf_nil (fun _ _ _ => by exact trivial) rfl fun r20 hr20 => ?_
      refine ops_val (yld_assign rfl) rfl (ops_nil (fin_next rfl (run_ret ?_)))
      exact ret1 Tryz.results74 () (get_bool rfl (by unfold atomS; (repeat (any_goals split)) <;> first | rfl | (simp_all; done) | (exfalso; simp_all; omega) | (exfalso; simp_all; done))) (.refl _) (fun _ _ _ => trivial)
  ·
   replace hr2 := eq_of_beq hr2
   refine run_cond_t rfl (run_seq (run_region (ops_val (yld_assign rfl) rfl (ops_nil (fin_next rfl (run_ret ?_))))))
   exact ret1 Tryz.results74 () (get_bool rfl (by unfold atomS; (repeat (any_goals split)) <;> first | rfl | (simp_all; done) | (exfalso; simp_all; omega) | (exfalso; simp_all; done))) (.refl _) (fun _ _ _ => trivial)
 ·
  replace hr1 := eq_of_beq hr1
  refine ops_no rfl rfl rfl rfl (ops_no rfl rfl rfl rfl (ops_val (yld_pick_t rfl rfl) rfl ?_))
  refine ops_val (yld_assign rfl) rfl (ops_nil (fin_next rfl (run_cond_t rfl (run_seq (run_region (ops_val (yld_assign rfl) rfl (ops_nil ?_)))))))
  refine fin_next rfl (run_ret ?_)
  exact ret1 Tryz.results74 () (get_bool rfl (by unfold atomS; (repeat (any_goals split)) <;> first | rfl | (simp_all; done) | (exfalso; simp_all; omega) | (exfalso; simp_all; done))) (.refl _) (fun _ _ _ => trivial)

end Go.Proofs.YtoafjmalfclpoaaGreatDoor
