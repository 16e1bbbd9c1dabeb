/-
  Part of the proofs over this seat: the small logic, the data, the contracts of functions (no condition).
-/
import Derived.Test.YtoafjmalfclpoaaGreatDoorPk5
import Derived.Test.YtoafjmalfclpoaaGreatDoorPk4
import Derived.Test.YtoafjmalfclpoaaGreatDoorPk2
import Derived.ProofKit
import Derived.OpenShut
import Derived.ReadAgain
import Derived.Deep.Slices
import Derived.SevenTiedAt
import Derived.Stop.Joined
import Derived.Lay
import Derived.LaidMore
import Derived.Test.YtoafjmalfclpoaaGreatDoorRows
set_option linter.unusedVariables false
set_option linter.unusedSimpArgs false
set_option linter.unusedSectionVars false
/-
  My own contracts.
-/
namespace Go.Proofs.YtoafjmalfclpoaaGreatDoor
open Go Go.Sx Go.Proofs
set_option linter.unusedVariables false
attribute [local irreducible] Code.wp wpList wpAnyH

open Go.Vs
theorem strt41 : Strt Tryz.prog 41 [(0, 1), (1, 1), (2, 5), (7, 5), (12, 1), (13, 1), (14, 1), (15, 1)] [.int .i64 0, .bool false, .int .i64 0, str [], .int .i64 0, .int .i64 0, .slice none 0 0, .int .i64 0, str [], .int .i64 0, .int .i64 0, .slice none 0 0, .slice none 0 0, str [], str [], str []] := ⟨_, Tryz.zeroValue41, Tryz.runUnderlying41, fun w => by simp [Tryz.sizeOf3, Tryz.sizeOf4, Tryz.sizeOf9, Tryz.sizeOf38, Tryz.sizeOf39]⟩

theorem named_c (s : Str) : Fn0 Tryz.prog 35 #[str s] (Con.val (Con.mk 3 s 0 0 none 0 [])) := by
  refine tri_of_body Tryz.func35 rfl rfl Tryz.ntmps35 rfl fun v0 => ?_
  refine run_seq (run_region (ops_alloc Tryz.zeroValue38 rfl fun b1 => ?_))
  refine ops_nil (fin_next rfl (run_seq (run_region (ops_val (yld_move rfl) rfl (ops_val (yld_struct strt38 rfl rfl) rfl ?_)))))
  refine ops_store 0 Tryz.sizeOf38 rfl rfl rfl rfl rfl rfl ?_
  refine ops_nil (fin_next rfl (run_ret ?_))
  exact retR () (fun a v h1 h2 => res_cellS (us := Con.cells (Con.mk 3 s 0 0 none 0 [])) 0 Tryz.results35 Tryz.isAgg38 Tryz.sizeOf38 rfl rfl rfl a v h1 h2) pf_nil (fun v _ h => trivial)

theorem some_c (r : Str) (c : Con) : Tri Tryz.prog 36 #[str r, Con.val c] [] [] (fun b : Nat => Con.val (Con.mk 6 r 0 0 (some ⟨b, 0, none⟩) 1 [c])) (fun _ => []) (fun b => [rowF (some ⟨b, 0, none⟩) (List.flatMap Con.cells [c])]) := by
  refine tri_of_body Tryz.func36 rfl rfl Tryz.ntmps36 rfl fun v0 => ?_
  refine run_seq (run_region (ops_box rfl rfl fun b1 => ?_))
  refine ops_alloc Tryz.zeroValue38 rfl fun b2 => ?_
  refine ops_nil (fin_next rfl (run_seq (run_region (ops_val (yld_move rfl) rfl (ops_val (yld_loadS 1 Tryz.isAgg38 Tryz.sizeOf38 rfl rfl rfl) rfl ?_)))))
  refine ops_slit Tryz.runUnderlying36 Tryz.sizeOf38 Tryz.zeroValue38 rfl rfl rfl rfl rfl rfl fun b3 => ?_
  refine ok_giveR (List.flatMap Con.cells [c]) pf_here rfl ?_
  refine ops_val (yld_struct strt38 rfl rfl) rfl ?_
  refine ops_store 0 Tryz.sizeOf38 rfl rfl rfl rfl rfl rfl ?_
  refine ops_nil (fin_next rfl (run_ret ?_))
  exact retR b3 (fun a v h1 h2 => res_cellS (us := Con.cells (Con.mk 6 r 0 0 (some ⟨b3, 0, none⟩) 1 [c])) 0 Tryz.results36 Tryz.isAgg38 Tryz.sizeOf38 rfl rfl rfl a v h1 h2) pf_nil (fun v _ h => ⟨h.1, trivial⟩)

theorem pieces_e (l : List Ax) (ad : Option Addr) (cap : Nat) (hcap : l.length ≤ cap ∧ cap ≤ 2199023255488) (hok : ∀ x ∈ l, x.ok) {p : List Pc} {er : Int} (e : piecesL l = (p, er)) :
    Tri Tryz.prog 12 #[.slice ad l.length cap] [] [axsF ad l, tabs] (fun y : {y : Option Addr × Nat // p.length ≤ y.2 ∧ y.2 ≤ maxLen} => .tuple #[.slice y.1.1 p.length y.1.2, .int .i64 er]) (fun _ => []) (fun y => [rowF y.1.1 (p.flatMap Pc.cells)]) := by
  have h := pieces_c l ad cap hcap hok
  generalize piecesL l = g at h e
  subst e
  exact h
theorem goal_e (x : Ax) (hok : x.ok) {p : List Pc} {fs : List Fc} {er : Int} (e : x.goalP = (p, fs, er)) :
    Tri Tryz.prog 19 #[x.val] [] [x.memF, tabs] (fun y : {y : Option Addr × Nat × Option Addr × Nat // p.length ≤ y.2.1 ∧ y.2.1 ≤ maxLen ∧ fs.length ≤ y.2.2.2 ∧ y.2.2.2 ≤ maxLen} => .tuple #[.slice y.1.1 p.length y.1.2.1, .slice y.1.2.2.1 fs.length y.1.2.2.2, .int .i64 er])
    (fun _ => []) (fun y => [rowF y.1.1 (p.flatMap Pc.cells), rowF y.1.2.2.1 (fs.flatMap Fc.cells)]) := by
  have h := goal_c x hok
  generalize x.goalP = g at h e
  subst e
  exact h
theorem check_e (l : List Pc) (ad : Option Addr) (cap : Nat) (hl : l.length ≤ 17592186044414) (hsm : ∀ p ∈ l, p.sm) {er : Int} (e : checkP l = er) : Tri Tryz.prog 13 #[.slice ad l.length cap] [] [rowF ad (List.flatMap Pc.cells l), tabN] (fun _ : Unit => .int .i64 er) (fun _ => []) (fun _ => []) := e ▸ check_c l ad cap hl hsm
theorem same_e (l : List Pc) (ad ae : Option Addr) (cap cpe : Nat) (hl : l.length ≤ 17592186044414) : Tri Tryz.prog 15 #[.slice ad l.length cap, .slice ae l.length cpe] [] [rowF ad (List.flatMap Pc.cells l), rowF ae (List.flatMap Pc.cells l)] (fun _ : Unit => .bool true) (fun _ => []) (fun _ => []) := by
  have h := same_c l l ad ae cap cpe hl hl
  rw [decide_eq_true (rfl : l = l)] at h
  exact h

theorem flattens_c (x : Ax) (hok : x.ok) (want : List Pc) (ad : Option Addr) (cap : Nat) (hw : want.length ≤ 100) (he : piecesL [x] = (want, 0)) : Tri Tryz.prog 37 #[Ax.val x, .slice ad (List.length want) cap] [] [Ax.memF x, rowF ad (List.flatMap Pc.cells want), tabs] (fun _ : Unit => .bool true) (fun _ => []) (fun _ => []) := by
  refine tri_of_body Tryz.func37 rfl rfl Tryz.ntmps37 rfl fun v0 => ?_
  refine run_seq (run_region (ops_box rfl rfl fun b1 => ?_))
  refine ops_val (yld_assign rfl) rfl (ops_nil (fin_next rfl (run_seq (run_region (ops_val (yld_loadS 0 Tryz.isAgg41 Tryz.sizeOf41 rfl rfl rfl) rfl ?_)))))
  refine ops_slit Tryz.runUnderlying22 Tryz.sizeOf41 Tryz.zeroValue41 rfl rfl rfl rfl rfl rfl fun b2 => ?_
  refine ok_giveR (List.flatMap Ax.cells [x]) pf_here rfl ?_
  refine ops_call (pieces_e [x] (some ⟨b2, 0, none⟩) 1 ⟨by simp, by decide⟩ (fun y hy => by simp only [List.mem_cons, List.not_mem_nil, or_false] at hy; subst hy; exact hok) he) rfl pf_nil (fun v _ h => by exact ⟨⟨h.1, fun y hy => by simp only [List.mem_cons, List.not_mem_nil, or_false] at hy; rcases hy with rfl; exact h.2.1⟩, h.2.2.2.1, trivial⟩) rfl fun ⟨⟨adp, cpp⟩, hap⟩ => ?_
  dsimp only
  refine ops_val (yld_move rfl) rfl (ops_val (yld_extract rfl rfl) rfl ?_)
  refine ops_val (yld_extract rfl rfl) rfl ?_
  refine ops_val (yld_assign rfl) rfl (ops_val (yld_assign rfl) rfl (ops_nil (fin_next rfl (run_seq (run_region (ops_val (yld_move rfl) rfl (ops_val (yld_eq (yld_eql rfl rfl) (show _ = Value.bool true from congrArg Value.bool (by decide))) rfl ?_)))))))
  refine ops_val (yld_move rfl) rfl (ops_yes rfl rfl (ops_val (yld_move rfl) rfl (ops_yes rfl rfl (ops_val (yld_move rfl) rfl (ops_yes rfl rfl (ops_call (same_e want adp ad cpp cap (by omega)) rfl pf_nil (fun v _ h => by exact ⟨h.1, h.2.2.2.1, trivial⟩) rfl fun _ => ?_))))))
  refine ops_val (yld_pick_t rfl rfl) rfl ?_
  refine ops_val (yld_assign rfl) rfl (ops_nil (fin_next rfl (run_ret ?_)))
  exact ret1 Tryz.results37 () rfl (.refl _) (fun _ _ _ => trivial)

theorem ok_flat1 (n0 n1 : Nat) : ((Ax.mk 1 false (Con.mk 5 [] 0 0 (some ⟨n0, 0, none⟩) 2 [(Con.mk 3 [65] 0 0 none 0 []), (Con.mk 3 [66] 0 0 none 0 [])]) (Con.mk 6 [114] 0 0 (some ⟨n1, 0, none⟩) 1 [(Con.mk 3 [67] 0 0 none 0 [])]) none 0 [] [] [] []) : Ax).ok := by constructor <;> simp [Con.ok, Con.ok.oks]

theorem flat1 (n0 n1 : Nat) : piecesL [(Ax.mk 1 false (Con.mk 5 [] 0 0 (some ⟨n0, 0, none⟩) 2 [(Con.mk 3 [65] 0 0 none 0 []), (Con.mk 3 [66] 0 0 none 0 [])]) (Con.mk 6 [114] 0 0 (some ⟨n1, 0, none⟩) 1 [(Con.mk 3 [67] 0 0 none 0 [])]) none 0 [] [] [] [])] = ([(Pc.mk 2 [65] [66] [60, 65, 32, 97, 110, 100, 32, 66, 62] [] [] [] 0 0 0), (Pc.mk 3 [60, 115, 111, 109, 101, 32, 114, 32, 67, 62] [] [67] [114] [] [] 0 0 0), (Pc.mk 1 [60, 65, 32, 97, 110, 100, 32, 66, 62] [] [60, 115, 111, 109, 101, 32, 114, 32, 67, 62] [] [] [] 0 0 0)], 0) := by kernel_rfl

theorem ok_flat2 : ((Ax.mk 3 false (Con.mk 3 [65] 0 0 none 0 []) (Con.mk 3 [65] 0 0 none 0 []) none 0 [] [] [] []) : Ax).ok := by constructor <;> simp [Con.ok, Con.ok.oks]

theorem flat2 : piecesL [(Ax.mk 3 false (Con.mk 3 [65] 0 0 none 0 []) (Con.mk 3 [65] 0 0 none 0 []) none 0 [] [] [] [])] = ([(Pc.mk 2 [65] [65] [33] [] [] [] 0 0 0)], 0) := by kernel_rfl

theorem ok_flat3 : ((Ax.mk 1 false (Con.mk 7 [97, 103, 101] 0 17 none 0 []) (Con.mk 3 [77, 105, 110, 111, 114] 0 0 none 0 []) none 0 [] [] [] []) : Ax).ok := by constructor <;> simp [Con.ok, Con.ok.oks]

theorem flat3 : piecesL [(Ax.mk 1 false (Con.mk 7 [97, 103, 101] 0 17 none 0 []) (Con.mk 3 [77, 105, 110, 111, 114] 0 0 none 0 []) none 0 [] [] [] [])] = ([(Pc.mk 9 [] [] [60, 97, 103, 101, 32, 105, 110, 32, 48, 32, 116, 111, 32, 49, 55, 62] [97, 103, 101] [] [] 0 17 0), (Pc.mk 1 [60, 97, 103, 101, 32, 105, 110, 32, 48, 32, 116, 111, 32, 49, 55, 62] [] [77, 105, 110, 111, 114] [] [] [] 0 0 0)], 0) := by
  have h0 : Lib.itoa 0 = [48] := by simp [Lib.itoa, Lib.decDigits]
  have h17 : Lib.itoa 17 = [49, 55] := by simp [Lib.itoa, Lib.decDigits]
  have hk : Con.check (Con.mk 7 [97, 103, 101] 0 17 none 0 []) = 0 := by kernel_rfl
  have ht : Con.text (Con.mk 7 [97, 103, 101] 0 17 none 0 []) = [97, 103, 101, 32, 105, 110, 32, 48, 32, 116, 111, 32, 49, 55] := by
    rw [Con.text_eq]
    simp [Con.kind, Con.name, Con.lo, Con.hi, h0, h17, Lib.join, List.intercalate]
  have ha : Con.atom (Con.mk 7 [97, 103, 101] 0 17 none 0 []) = [60, 97, 103, 101, 32, 105, 110, 32, 48, 32, 116, 111, 32, 49, 55, 62] := by
    unfold Con.atom Con.textN
    rw [hk, ht]
    rfl
  have hb : firstBad [(Ax.mk 1 false (Con.mk 7 [97, 103, 101] 0 17 none 0 []) (Con.mk 3 [77, 105, 110, 111, 114] 0 0 none 0 []) none 0 [] [] [] [])] = 0 := by kernel_rfl
  have hp : Ax.pieces 0 (Ax.mk 1 false (Con.mk 7 [97, 103, 101] 0 17 none 0 []) (Con.mk 3 [77, 105, 110, 111, 114] 0 0 none 0 []) none 0 [] [] [] []) = [(Pc.mk 9 [] [] [60, 97, 103, 101, 32, 105, 110, 32, 48, 32, 116, 111, 32, 49, 55, 62] [97, 103, 101] [] [] 0 17 0), (Pc.mk 1 [60, 97, 103, 101, 32, 105, 110, 32, 48, 32, 116, 111, 32, 49, 55, 62] [] [77, 105, 110, 111, 114] [] [] [] 0 0 0)] := by
    unfold Ax.pieces
    simp only [if_true]
    rw [Con.leftP_eq, Con.rightP_eq]
    simp only [Con.kind, ha, Con.name, Con.lo, Con.hi]
    rfl
  unfold piecesL
  rw [if_neg (by decide), hb]
  simp only [gather, List.nil_append]
  rw [show ((0 : Nat) : Int) = 0 from rfl, hp]
  rfl

theorem ok_flat4 (n0 : Nat) : ((Ax.mk 8 false (Con.mk 0 [] 0 0 none 0 []) (Con.mk 6 [114] 0 0 (some ⟨n0, 0, none⟩) 1 [(Con.mk 1 [] 0 0 none 0 [])]) none 0 [] [] [97] []) : Ax).ok := by constructor <;> simp [Con.ok, Con.ok.oks]

theorem flat4 (n0 : Nat) : piecesL [(Ax.mk 8 false (Con.mk 0 [] 0 0 none 0 []) (Con.mk 6 [114] 0 0 (some ⟨n0, 0, none⟩) 1 [(Con.mk 1 [] 0 0 none 0 [])]) none 0 [] [] [97] [])] = ([(Pc.mk 3 [60, 115, 111, 109, 101, 32, 114, 32, 101, 118, 101, 114, 121, 116, 104, 105, 110, 103, 62] [] [42] [114] [] [] 0 0 0), (Pc.mk 1 [123, 97, 125] [] [60, 115, 111, 109, 101, 32, 114, 32, 101, 118, 101, 114, 121, 116, 104, 105, 110, 103, 62] [] [] [] 0 0 0)], 0) := by kernel_rfl

theorem ok_flat5 (n0 : Nat) : ((Ax.mk 6 false (Con.mk 0 [] 0 0 none 0 []) (Con.mk 0 [] 0 0 none 0 []) (some ⟨n0, 0, none⟩) 2 [[114], [114]] [114] [] []) : Ax).ok := by constructor <;> simp [Con.ok, Con.ok.oks]

theorem flat5 (n0 : Nat) : piecesL [(Ax.mk 6 false (Con.mk 0 [] 0 0 none 0 []) (Con.mk 0 [] 0 0 none 0 []) (some ⟨n0, 0, none⟩) 2 [[114], [114]] [114] [] [])] = ([(Pc.mk 6 [] [] [] [114] [114] [114] 0 0 0)], 0) := by kernel_rfl

theorem ok_goal (n0 : Nat) : ((Ax.mk 1 false (Con.mk 3 [65] 0 0 none 0 []) (Con.mk 6 [114] 0 0 (some ⟨n0, 0, none⟩) 1 [(Con.mk 3 [66] 0 0 none 0 [])]) none 0 [] [] [] []) : Ax).ok := by constructor <;> simp [Con.ok, Con.ok.oks]

theorem goalS (n0 : Nat) : Ax.goalP (Ax.mk 1 false (Con.mk 3 [65] 0 0 none 0 []) (Con.mk 6 [114] 0 0 (some ⟨n0, 0, none⟩) 1 [(Con.mk 3 [66] 0 0 none 0 [])]) none 0 [] [] [] []) = ([(Pc.mk 1 [65] [] [42] [] [] [] 0 0 (-1)), (Pc.mk 1 [60, 115, 111, 109, 101, 32, 114, 32, 66, 62] [] [42] [] [] [] 0 0 (-1)), (Pc.mk 4 [66] [] [60, 115, 111, 109, 101, 32, 114, 32, 66, 62] [114] [] [] 0 0 (-1))], [(Fc.mk 1 [65] [60, 115, 111, 109, 101, 32, 114, 32, 66, 62] [] 0 0)], 0) := by kernel_rfl

theorem sane_c : Tri Tryz.prog 10 #[] [] [tabs] (fun _ : Unit => .bool true) (fun _ => []) (fun _ => []) := by
  refine tri_of_body Tryz.func10 rfl rfl Tryz.ntmps10 rfl fun v0 => ?_
  refine run_seq (run_region (ops_val (yld_assign rfl) rfl (ops_nil (fin_next rfl (run_seq (run_region (ops_call (named_c [65]) rfl pf_nil (fun _ _ _ => by exact trivial) rfl fun _ => ?_)))))))
  refine ops_alloc Tryz.zeroValue38 rfl fun b1 => ?_
  refine ops_store 0 Tryz.sizeOf38 rfl rfl rfl rfl rfl rfl ?_
  refine ops_nil (fin_next rfl (run_seq (run_region (ops_val (yld_struct strt38 rfl rfl) rfl ?_))))
  refine ops_alloc Tryz.zeroValue38 rfl fun b2 => ?_
  refine ops_store 0 Tryz.sizeOf38 rfl rfl rfl rfl rfl rfl ?_
  refine ops_nil (fin_next rfl (run_seq ?_))
  refine run_cut (ι := Nat × Nat × Nat) (fun z => [(0, .bool false), (1, .pointer (some ⟨b1, 0, none⟩)), (2, .pointer (some ⟨b2, 0, none⟩)), (3, .pointer (some ⟨z.2.2, 0, none⟩))]) (fun z => ((z.2.2, .cells #[.int .i64 1, .bool false, .int .i64 5, str [], .int .i64 0, .int .i64 0, .slice (some ⟨z.1, 0, none⟩) (List.length [(Con.mk 3 [65] 0 0 none 0 []), (Con.mk 3 [66] 0 0 none 0 [])]) 2, .int .i64 6, str [114], .int .i64 0, .int .i64 0, .slice (some ⟨z.2.1, 0, none⟩) (List.length [(Con.mk 3 [67] 0 0 none 0 [])]) 1, .slice none 0 0, str [], str [], str []] 41 (0, 0)) :: ((b2, .cells #[.int .i64 7, str [97, 103, 101], .int .i64 0, .int .i64 17, .slice none 0 0] 38 (0, 0)) :: ((b1, .cells #[.int .i64 3, str [65], .int .i64 0, .int .i64 0, .slice none 0 0] 38 (0, 0)) :: [])))) (fun z => [rowF (some ⟨z.1, 0, none⟩) (List.flatMap Con.cells [(Con.mk 3 [65] 0 0 none 0 []), (Con.mk 3 [66] 0 0 none 0 [])]), rowF (some ⟨z.2.1, 0, none⟩) (List.flatMap Con.cells [(Con.mk 3 [67] 0 0 none 0 [])]), tabs]) ?_ ?_
  · skip
    refine run_draw' (by kernel_rfl) ?_
    refine any_sq 8 [0] (by kernel_rfl) (fun _ a b => ⟨a, b⟩) ?_
    refine sq_val rfl (yld_loadS 1 Tryz.isAgg38 Tryz.sizeOf38 rfl rfl rfl) rfl ?_
    refine sq_nil ?_
    refine any_two 1 7 rfl rfl (by kernel_rfl) ?_ ?_
    · skip
      refine ops_call (named_c [66]) rfl pf_nil (fun _ _ _ => by exact trivial) rfl fun _ => ?_
      refine ops_nil (fin_inv rfl (any_next (fun _ a b => ⟨a, b⟩) ?_))
      refine any_many [2, 4, 7] (by kernel_rfl) (by simp) ?_
      intro i hi; simp only [List.mem_cons, List.not_mem_nil, or_false] at hi; rcases hi with rfl | rfl | rfl
      · refine ⟨_, rfl, ?_⟩
        refine ops_slit Tryz.runUnderlying36 Tryz.sizeOf38 Tryz.zeroValue38 rfl rfl rfl rfl rfl rfl fun b3 => ?_
        refine ok_giveR (List.flatMap Con.cells [(Con.mk 3 [65] 0 0 none 0 []), (Con.mk 3 [66] 0 0 none 0 [])]) pf_here rfl ?_
        refine ops_nil (fin_inv rfl (any_next (fun _ a b => ⟨a, b.2⟩) ?_))
        refine any_sq 5 [3] (by kernel_rfl) (fun _ a b => ⟨a, b.2⟩) ?_
        refine sq_val rfl (yld_struct strt38 rfl rfl) rfl ?_
        refine sq_nil ?_
        refine any_two 4 7 rfl rfl (by kernel_rfl) ?_ ?_
        · skip
          refine ops_call (named_c [67]) rfl pf_nil (fun _ _ _ => by exact trivial) rfl fun _ => ?_
          refine ops_nil (fin_inv rfl (any_next (fun _ a b => ⟨a, b.2⟩) ?_))
          refine any_two 5 7 rfl rfl (by kernel_rfl) ?_ ?_
          · skip
            refine ops_call (some_c [114] (Con.mk 3 [67] 0 0 none 0 [])) rfl pf_nil (fun _ _ _ => by exact trivial) rfl fun b4 => ?_
            refine ops_nil (fin_inv rfl (any_next (fun _ a b => ⟨a, b.2.2⟩) ?_))
            refine any_sq 2 [6] (by kernel_rfl) (fun _ a b => ⟨a, b.2.2⟩) ?_
            refine sq_val rfl (yld_struct strt41 rfl rfl) rfl ?_
            refine sq_nil ?_
            refine any_one 7 rfl (by kernel_rfl) ?_
            refine ops_alloc Tryz.zeroValue41 rfl fun b5 => ?_
            refine ops_nil (fin_inv rfl (any_next (fun _ a b => ⟨a.tail, b.2.2⟩) ?_))
            refine any_one 8 rfl (by kernel_rfl) ?_
            refine ops_store 0 Tryz.sizeOf41 rfl rfl rfl rfl rfl rfl ?_
            refine ops_nil (fin_inv rfl (any_next (fun _ a b => ⟨a.tail, b.2.2⟩) ?_))
            refine any_done (by kernel_rfl) ?_
            refine fin_end rfl ?_
            exact mid_done (b3, b4, b5) ⟨rfl, rfl, rfl, rfl, trivial⟩ (pf_takeB pf_here (pf_takeB pf_here pf_here)) (fun v _ h => by exact ⟨h.2.1, h.1, h.2.2.1, trivial⟩)
          · skip
            refine ops_alloc Tryz.zeroValue41 rfl fun b6 => ?_
            refine ops_nil (fin_inv rfl (any_next (fun _ a b => ⟨a.tail, b.2⟩) ?_))
            refine any_one 5 rfl (by kernel_rfl) ?_
            refine ops_call (some_c [114] (Con.mk 3 [67] 0 0 none 0 [])) rfl pf_nil (fun _ _ _ => by exact trivial) rfl fun b7 => ?_
            refine ops_nil (fin_inv rfl (any_next (fun _ a b => ⟨a.tail, b.2.2⟩) ?_))
            refine any_sq 1 [6] (by kernel_rfl) (fun _ a b => ⟨a.tail, b.2.2⟩) ?_
            refine sq_val rfl (yld_struct strt41 rfl rfl) rfl ?_
            refine sq_nil ?_
            refine any_one 8 rfl (by kernel_rfl) ?_
            refine ops_store 0 Tryz.sizeOf41 rfl rfl rfl rfl rfl rfl ?_
            refine ops_nil (fin_inv rfl (any_next (fun _ a b => ⟨a.tail, b.2.2⟩) ?_))
            refine any_done (by kernel_rfl) ?_
            refine fin_end rfl ?_
            exact mid_done (b3, b7, b6) ⟨rfl, rfl, rfl, rfl, trivial⟩ (pf_takeB pf_here (pf_takeB pf_here pf_here)) (fun v _ h => by exact ⟨h.2.1, h.1, h.2.2.1, trivial⟩)
        · skip
          refine ops_alloc Tryz.zeroValue41 rfl fun b8 => ?_
          refine ops_nil (fin_inv rfl (any_next (fun _ a b => ⟨a.tail, b.2⟩) ?_))
          refine any_one 4 rfl (by kernel_rfl) ?_
          refine ops_call (named_c [67]) rfl pf_nil (fun _ _ _ => by exact trivial) rfl fun _ => ?_
          refine ops_nil (fin_inv rfl (any_next (fun _ a b => ⟨a.tail, b.2⟩) ?_))
          refine any_one 5 rfl (by kernel_rfl) ?_
          refine ops_call (some_c [114] (Con.mk 3 [67] 0 0 none 0 [])) rfl pf_nil (fun _ _ _ => by exact trivial) rfl fun b9 => ?_
          refine ops_nil (fin_inv rfl (any_next (fun _ a b => ⟨a.tail, b.2.2⟩) ?_))
          refine any_sq 1 [6] (by kernel_rfl) (fun _ a b => ⟨a.tail, b.2.2⟩) ?_
          refine sq_val rfl (yld_struct strt41 rfl rfl) rfl ?_
          refine sq_nil ?_
          refine any_one 8 rfl (by kernel_rfl) ?_
          refine ops_store 0 Tryz.sizeOf41 rfl rfl rfl rfl rfl rfl ?_
          refine ops_nil (fin_inv rfl (any_next (fun _ a b => ⟨a.tail, b.2.2⟩) ?_))
          refine any_done (by kernel_rfl) ?_
          refine fin_end rfl ?_
          exact mid_done (b3, b9, b8) ⟨rfl, rfl, rfl, rfl, trivial⟩ (pf_takeB pf_here (pf_takeB pf_here pf_here)) (fun v _ h => by exact ⟨h.2.1, h.1, h.2.2.1, trivial⟩)
      · refine ⟨_, rfl, ?_⟩
        refine ops_call (named_c [67]) rfl pf_nil (fun _ _ _ => by exact trivial) rfl fun _ => ?_
        refine ops_nil (fin_inv rfl (any_next (fun _ a b => ⟨a, b⟩) ?_))
        refine any_many [2, 5, 7] (by kernel_rfl) (by simp) ?_
        intro i hi; simp only [List.mem_cons, List.not_mem_nil, or_false] at hi; rcases hi with rfl | rfl | rfl
        · refine ⟨_, rfl, ?_⟩
          refine ops_slit Tryz.runUnderlying36 Tryz.sizeOf38 Tryz.zeroValue38 rfl rfl rfl rfl rfl rfl fun b10 => ?_
          refine ok_giveR (List.flatMap Con.cells [(Con.mk 3 [65] 0 0 none 0 []), (Con.mk 3 [66] 0 0 none 0 [])]) pf_here rfl ?_
          refine ops_nil (fin_inv rfl (any_next (fun _ a b => ⟨a, b.2⟩) ?_))
          refine any_sq 4 [3] (by kernel_rfl) (fun _ a b => ⟨a, b.2⟩) ?_
          refine sq_val rfl (yld_struct strt38 rfl rfl) rfl ?_
          refine sq_nil ?_
          refine any_two 5 7 rfl rfl (by kernel_rfl) ?_ ?_
          · skip
            refine ops_call (some_c [114] (Con.mk 3 [67] 0 0 none 0 [])) rfl pf_nil (fun _ _ _ => by exact trivial) rfl fun b11 => ?_
            refine ops_nil (fin_inv rfl (any_next (fun _ a b => ⟨a, b.2.2⟩) ?_))
            refine any_sq 2 [6] (by kernel_rfl) (fun _ a b => ⟨a, b.2.2⟩) ?_
            refine sq_val rfl (yld_struct strt41 rfl rfl) rfl ?_
            refine sq_nil ?_
            refine any_one 7 rfl (by kernel_rfl) ?_
            refine ops_alloc Tryz.zeroValue41 rfl fun b12 => ?_
            refine ops_nil (fin_inv rfl (any_next (fun _ a b => ⟨a.tail, b.2.2⟩) ?_))
            refine any_one 8 rfl (by kernel_rfl) ?_
            refine ops_store 0 Tryz.sizeOf41 rfl rfl rfl rfl rfl rfl ?_
            refine ops_nil (fin_inv rfl (any_next (fun _ a b => ⟨a.tail, b.2.2⟩) ?_))
            refine any_done (by kernel_rfl) ?_
            refine fin_end rfl ?_
            exact mid_done (b10, b11, b12) ⟨rfl, rfl, rfl, rfl, trivial⟩ (pf_takeB pf_here (pf_takeB pf_here pf_here)) (fun v _ h => by exact ⟨h.2.1, h.1, h.2.2.1, trivial⟩)
          · skip
            refine ops_alloc Tryz.zeroValue41 rfl fun b13 => ?_
            refine ops_nil (fin_inv rfl (any_next (fun _ a b => ⟨a.tail, b.2⟩) ?_))
            refine any_one 5 rfl (by kernel_rfl) ?_
            refine ops_call (some_c [114] (Con.mk 3 [67] 0 0 none 0 [])) rfl pf_nil (fun _ _ _ => by exact trivial) rfl fun b14 => ?_
            refine ops_nil (fin_inv rfl (any_next (fun _ a b => ⟨a.tail, b.2.2⟩) ?_))
            refine any_sq 1 [6] (by kernel_rfl) (fun _ a b => ⟨a.tail, b.2.2⟩) ?_
            refine sq_val rfl (yld_struct strt41 rfl rfl) rfl ?_
            refine sq_nil ?_
            refine any_one 8 rfl (by kernel_rfl) ?_
            refine ops_store 0 Tryz.sizeOf41 rfl rfl rfl rfl rfl rfl ?_
            refine ops_nil (fin_inv rfl (any_next (fun _ a b => ⟨a.tail, b.2.2⟩) ?_))
            refine any_done (by kernel_rfl) ?_
            refine fin_end rfl ?_
            exact mid_done (b10, b14, b13) ⟨rfl, rfl, rfl, rfl, trivial⟩ (pf_takeB pf_here (pf_takeB pf_here pf_here)) (fun v _ h => by exact ⟨h.2.1, h.1, h.2.2.1, trivial⟩)
        · refine ⟨_, rfl, ?_⟩
          refine ops_call (some_c [114] (Con.mk 3 [67] 0 0 none 0 [])) rfl pf_nil (fun _ _ _ => by exact trivial) rfl fun b15 => ?_
          refine ops_nil (fin_inv rfl (any_next (fun _ a b => ⟨a, b.2⟩) ?_))
          refine any_two 2 7 rfl rfl (by kernel_rfl) ?_ ?_
          · skip
            refine ops_slit Tryz.runUnderlying36 Tryz.sizeOf38 Tryz.zeroValue38 rfl rfl rfl rfl rfl rfl fun b16 => ?_
            refine ok_giveR (List.flatMap Con.cells [(Con.mk 3 [65] 0 0 none 0 []), (Con.mk 3 [66] 0 0 none 0 [])]) pf_here rfl ?_
            refine ops_nil (fin_inv rfl (any_next (fun _ a b => ⟨a, b.2.2⟩) ?_))
            refine any_sq 2 [3, 6] (by kernel_rfl) (fun _ a b => ⟨a, b.2.2⟩) ?_
            refine sq_val rfl (yld_struct strt38 rfl rfl) rfl ?_
            refine sq_val rfl (yld_struct strt41 rfl rfl) rfl ?_
            refine sq_nil ?_
            refine any_one 7 rfl (by kernel_rfl) ?_
            refine ops_alloc Tryz.zeroValue41 rfl fun b17 => ?_
            refine ops_nil (fin_inv rfl (any_next (fun _ a b => ⟨a.tail, b.2.2⟩) ?_))
            refine any_one 8 rfl (by kernel_rfl) ?_
            refine ops_store 0 Tryz.sizeOf41 rfl rfl rfl rfl rfl rfl ?_
            refine ops_nil (fin_inv rfl (any_next (fun _ a b => ⟨a.tail, b.2.2⟩) ?_))
            refine any_done (by kernel_rfl) ?_
            refine fin_end rfl ?_
            exact mid_done (b16, b15, b17) ⟨rfl, rfl, rfl, rfl, trivial⟩ (pf_takeB pf_here (pf_takeB pf_here pf_here)) (fun v _ h => by exact ⟨h.1, h.2.1, h.2.2.1, trivial⟩)
          · skip
            refine ops_alloc Tryz.zeroValue41 rfl fun b18 => ?_
            refine ops_nil (fin_inv rfl (any_next (fun _ a b => ⟨a.tail, b.2⟩) ?_))
            refine any_one 2 rfl (by kernel_rfl) ?_
            refine ops_slit Tryz.runUnderlying36 Tryz.sizeOf38 Tryz.zeroValue38 rfl rfl rfl rfl rfl rfl fun b19 => ?_
            refine ok_giveR (List.flatMap Con.cells [(Con.mk 3 [65] 0 0 none 0 []), (Con.mk 3 [66] 0 0 none 0 [])]) pf_here rfl ?_
            refine ops_nil (fin_inv rfl (any_next (fun _ a b => ⟨a.tail, b.2.2⟩) ?_))
            refine any_sq 1 [3, 6] (by kernel_rfl) (fun _ a b => ⟨a.tail, b.2.2⟩) ?_
            refine sq_val rfl (yld_struct strt38 rfl rfl) rfl ?_
            refine sq_val rfl (yld_struct strt41 rfl rfl) rfl ?_
            refine sq_nil ?_
            refine any_one 8 rfl (by kernel_rfl) ?_
            refine ops_store 0 Tryz.sizeOf41 rfl rfl rfl rfl rfl rfl ?_
            refine ops_nil (fin_inv rfl (any_next (fun _ a b => ⟨a.tail, b.2.2⟩) ?_))
            refine any_done (by kernel_rfl) ?_
            refine fin_end rfl ?_
            exact mid_done (b19, b15, b18) ⟨rfl, rfl, rfl, rfl, trivial⟩ (pf_takeB pf_here (pf_takeB pf_here pf_here)) (fun v _ h => by exact ⟨h.1, h.2.1, h.2.2.1, trivial⟩)
        · refine ⟨_, rfl, ?_⟩
          refine ops_alloc Tryz.zeroValue41 rfl fun b20 => ?_
          refine ops_nil (fin_inv rfl (any_next (fun _ a b => ⟨a.tail, b⟩) ?_))
          refine any_two 2 5 rfl rfl (by kernel_rfl) ?_ ?_
          · skip
            refine ops_slit Tryz.runUnderlying36 Tryz.sizeOf38 Tryz.zeroValue38 rfl rfl rfl rfl rfl rfl fun b21 => ?_
            refine ok_giveR (List.flatMap Con.cells [(Con.mk 3 [65] 0 0 none 0 []), (Con.mk 3 [66] 0 0 none 0 [])]) pf_here rfl ?_
            refine ops_nil (fin_inv rfl (any_next (fun _ a b => ⟨a.tail, b.2⟩) ?_))
            refine any_sq 3 [3] (by kernel_rfl) (fun _ a b => ⟨a.tail, b.2⟩) ?_
            refine sq_val rfl (yld_struct strt38 rfl rfl) rfl ?_
            refine sq_nil ?_
            refine any_one 5 rfl (by kernel_rfl) ?_
            refine ops_call (some_c [114] (Con.mk 3 [67] 0 0 none 0 [])) rfl pf_nil (fun _ _ _ => by exact trivial) rfl fun b22 => ?_
            refine ops_nil (fin_inv rfl (any_next (fun _ a b => ⟨a.tail, b.2.2⟩) ?_))
            refine any_sq 1 [6] (by kernel_rfl) (fun _ a b => ⟨a.tail, b.2.2⟩) ?_
            refine sq_val rfl (yld_struct strt41 rfl rfl) rfl ?_
            refine sq_nil ?_
            refine any_one 8 rfl (by kernel_rfl) ?_
            refine ops_store 0 Tryz.sizeOf41 rfl rfl rfl rfl rfl rfl ?_
            refine ops_nil (fin_inv rfl (any_next (fun _ a b => ⟨a.tail, b.2.2⟩) ?_))
            refine any_done (by kernel_rfl) ?_
            refine fin_end rfl ?_
            exact mid_done (b21, b22, b20) ⟨rfl, rfl, rfl, rfl, trivial⟩ (pf_takeB pf_here (pf_takeB pf_here pf_here)) (fun v _ h => by exact ⟨h.2.1, h.1, h.2.2.1, trivial⟩)
          · skip
            refine ops_call (some_c [114] (Con.mk 3 [67] 0 0 none 0 [])) rfl pf_nil (fun _ _ _ => by exact trivial) rfl fun b23 => ?_
            refine ops_nil (fin_inv rfl (any_next (fun _ a b => ⟨a.tail, b.2⟩) ?_))
            refine any_one 2 rfl (by kernel_rfl) ?_
            refine ops_slit Tryz.runUnderlying36 Tryz.sizeOf38 Tryz.zeroValue38 rfl rfl rfl rfl rfl rfl fun b24 => ?_
            refine ok_giveR (List.flatMap Con.cells [(Con.mk 3 [65] 0 0 none 0 []), (Con.mk 3 [66] 0 0 none 0 [])]) pf_here rfl ?_
            refine ops_nil (fin_inv rfl (any_next (fun _ a b => ⟨a.tail, b.2.2⟩) ?_))
            refine any_sq 1 [3, 6] (by kernel_rfl) (fun _ a b => ⟨a.tail, b.2.2⟩) ?_
            refine sq_val rfl (yld_struct strt38 rfl rfl) rfl ?_
            refine sq_val rfl (yld_struct strt41 rfl rfl) rfl ?_
            refine sq_nil ?_
            refine any_one 8 rfl (by kernel_rfl) ?_
            refine ops_store 0 Tryz.sizeOf41 rfl rfl rfl rfl rfl rfl ?_
            refine ops_nil (fin_inv rfl (any_next (fun _ a b => ⟨a.tail, b.2.2⟩) ?_))
            refine any_done (by kernel_rfl) ?_
            refine fin_end rfl ?_
            exact mid_done (b24, b23, b20) ⟨rfl, rfl, rfl, rfl, trivial⟩ (pf_takeB pf_here (pf_takeB pf_here pf_here)) (fun v _ h => by exact ⟨h.1, h.2.1, h.2.2.1, trivial⟩)
      · refine ⟨_, rfl, ?_⟩
        refine ops_alloc Tryz.zeroValue41 rfl fun b25 => ?_
        refine ops_nil (fin_inv rfl (any_next (fun _ a b => ⟨a.tail, b⟩) ?_))
        refine any_two 2 4 rfl rfl (by kernel_rfl) ?_ ?_
        · skip
          refine ops_slit Tryz.runUnderlying36 Tryz.sizeOf38 Tryz.zeroValue38 rfl rfl rfl rfl rfl rfl fun b26 => ?_
          refine ok_giveR (List.flatMap Con.cells [(Con.mk 3 [65] 0 0 none 0 []), (Con.mk 3 [66] 0 0 none 0 [])]) pf_here rfl ?_
          refine ops_nil (fin_inv rfl (any_next (fun _ a b => ⟨a.tail, b.2⟩) ?_))
          refine any_sq 4 [3] (by kernel_rfl) (fun _ a b => ⟨a.tail, b.2⟩) ?_
          refine sq_val rfl (yld_struct strt38 rfl rfl) rfl ?_
          refine sq_nil ?_
          refine any_one 4 rfl (by kernel_rfl) ?_
          refine ops_call (named_c [67]) rfl pf_nil (fun _ _ _ => by exact trivial) rfl fun _ => ?_
          refine ops_nil (fin_inv rfl (any_next (fun _ a b => ⟨a.tail, b.2⟩) ?_))
          refine any_one 5 rfl (by kernel_rfl) ?_
          refine ops_call (some_c [114] (Con.mk 3 [67] 0 0 none 0 [])) rfl pf_nil (fun _ _ _ => by exact trivial) rfl fun b27 => ?_
          refine ops_nil (fin_inv rfl (any_next (fun _ a b => ⟨a.tail, b.2.2⟩) ?_))
          refine any_sq 1 [6] (by kernel_rfl) (fun _ a b => ⟨a.tail, b.2.2⟩) ?_
          refine sq_val rfl (yld_struct strt41 rfl rfl) rfl ?_
          refine sq_nil ?_
          refine any_one 8 rfl (by kernel_rfl) ?_
          refine ops_store 0 Tryz.sizeOf41 rfl rfl rfl rfl rfl rfl ?_
          refine ops_nil (fin_inv rfl (any_next (fun _ a b => ⟨a.tail, b.2.2⟩) ?_))
          refine any_done (by kernel_rfl) ?_
          refine fin_end rfl ?_
          exact mid_done (b26, b27, b25) ⟨rfl, rfl, rfl, rfl, trivial⟩ (pf_takeB pf_here (pf_takeB pf_here pf_here)) (fun v _ h => by exact ⟨h.2.1, h.1, h.2.2.1, trivial⟩)
        · skip
          refine ops_call (named_c [67]) rfl pf_nil (fun _ _ _ => by exact trivial) rfl fun _ => ?_
          refine ops_nil (fin_inv rfl (any_next (fun _ a b => ⟨a.tail, b⟩) ?_))
          refine any_two 2 5 rfl rfl (by kernel_rfl) ?_ ?_
          · skip
            refine ops_slit Tryz.runUnderlying36 Tryz.sizeOf38 Tryz.zeroValue38 rfl rfl rfl rfl rfl rfl fun b28 => ?_
            refine ok_giveR (List.flatMap Con.cells [(Con.mk 3 [65] 0 0 none 0 []), (Con.mk 3 [66] 0 0 none 0 [])]) pf_here rfl ?_
            refine ops_nil (fin_inv rfl (any_next (fun _ a b => ⟨a.tail, b.2⟩) ?_))
            refine any_sq 3 [3] (by kernel_rfl) (fun _ a b => ⟨a.tail, b.2⟩) ?_
            refine sq_val rfl (yld_struct strt38 rfl rfl) rfl ?_
            refine sq_nil ?_
            refine any_one 5 rfl (by kernel_rfl) ?_
            refine ops_call (some_c [114] (Con.mk 3 [67] 0 0 none 0 [])) rfl pf_nil (fun _ _ _ => by exact trivial) rfl fun b29 => ?_
            refine ops_nil (fin_inv rfl (any_next (fun _ a b => ⟨a.tail, b.2.2⟩) ?_))
            refine any_sq 1 [6] (by kernel_rfl) (fun _ a b => ⟨a.tail, b.2.2⟩) ?_
            refine sq_val rfl (yld_struct strt41 rfl rfl) rfl ?_
            refine sq_nil ?_
            refine any_one 8 rfl (by kernel_rfl) ?_
            refine ops_store 0 Tryz.sizeOf41 rfl rfl rfl rfl rfl rfl ?_
            refine ops_nil (fin_inv rfl (any_next (fun _ a b => ⟨a.tail, b.2.2⟩) ?_))
            refine any_done (by kernel_rfl) ?_
            refine fin_end rfl ?_
            exact mid_done (b28, b29, b25) ⟨rfl, rfl, rfl, rfl, trivial⟩ (pf_takeB pf_here (pf_takeB pf_here pf_here)) (fun v _ h => by exact ⟨h.2.1, h.1, h.2.2.1, trivial⟩)
          · skip
            refine ops_call (some_c [114] (Con.mk 3 [67] 0 0 none 0 [])) rfl pf_nil (fun _ _ _ => by exact trivial) rfl fun b30 => ?_
            refine ops_nil (fin_inv rfl (any_next (fun _ a b => ⟨a.tail, b.2⟩) ?_))
            refine any_one 2 rfl (by kernel_rfl) ?_
            refine ops_slit Tryz.runUnderlying36 Tryz.sizeOf38 Tryz.zeroValue38 rfl rfl rfl rfl rfl rfl fun b31 => ?_
            refine ok_giveR (List.flatMap Con.cells [(Con.mk 3 [65] 0 0 none 0 []), (Con.mk 3 [66] 0 0 none 0 [])]) pf_here rfl ?_
            refine ops_nil (fin_inv rfl (any_next (fun _ a b => ⟨a.tail, b.2.2⟩) ?_))
            refine any_sq 1 [3, 6] (by kernel_rfl) (fun _ a b => ⟨a.tail, b.2.2⟩) ?_
            refine sq_val rfl (yld_struct strt38 rfl rfl) rfl ?_
            refine sq_val rfl (yld_struct strt41 rfl rfl) rfl ?_
            refine sq_nil ?_
            refine any_one 8 rfl (by kernel_rfl) ?_
            refine ops_store 0 Tryz.sizeOf41 rfl rfl rfl rfl rfl rfl ?_
            refine ops_nil (fin_inv rfl (any_next (fun _ a b => ⟨a.tail, b.2.2⟩) ?_))
            refine any_done (by kernel_rfl) ?_
            refine fin_end rfl ?_
            exact mid_done (b31, b30, b25) ⟨rfl, rfl, rfl, rfl, trivial⟩ (pf_takeB pf_here (pf_takeB pf_here pf_here)) (fun v _ h => by exact ⟨h.1, h.2.1, h.2.2.1, trivial⟩)
    · skip
      refine ops_alloc Tryz.zeroValue41 rfl fun b32 => ?_
      refine ops_nil (fin_inv rfl (any_next (fun _ a b => ⟨a.tail, b⟩) ?_))
      refine any_one 1 rfl (by kernel_rfl) ?_
      refine ops_call (named_c [66]) rfl pf_nil (fun _ _ _ => by exact trivial) rfl fun _ => ?_
      refine ops_nil (fin_inv rfl (any_next (fun _ a b => ⟨a.tail, b⟩) ?_))
      refine any_two 2 4 rfl rfl (by kernel_rfl) ?_ ?_
      · skip
        refine ops_slit Tryz.runUnderlying36 Tryz.sizeOf38 Tryz.zeroValue38 rfl rfl rfl rfl rfl rfl fun b33 => ?_
        refine ok_giveR (List.flatMap Con.cells [(Con.mk 3 [65] 0 0 none 0 []), (Con.mk 3 [66] 0 0 none 0 [])]) pf_here rfl ?_
        refine ops_nil (fin_inv rfl (any_next (fun _ a b => ⟨a.tail, b.2⟩) ?_))
        refine any_sq 4 [3] (by kernel_rfl) (fun _ a b => ⟨a.tail, b.2⟩) ?_
        refine sq_val rfl (yld_struct strt38 rfl rfl) rfl ?_
        refine sq_nil ?_
        refine any_one 4 rfl (by kernel_rfl) ?_
        refine ops_call (named_c [67]) rfl pf_nil (fun _ _ _ => by exact trivial) rfl fun _ => ?_
        refine ops_nil (fin_inv rfl (any_next (fun _ a b => ⟨a.tail, b.2⟩) ?_))
        refine any_one 5 rfl (by kernel_rfl) ?_
        refine ops_call (some_c [114] (Con.mk 3 [67] 0 0 none 0 [])) rfl pf_nil (fun _ _ _ => by exact trivial) rfl fun b34 => ?_
        refine ops_nil (fin_inv rfl (any_next (fun _ a b => ⟨a.tail, b.2.2⟩) ?_))
        refine any_sq 1 [6] (by kernel_rfl) (fun _ a b => ⟨a.tail, b.2.2⟩) ?_
        refine sq_val rfl (yld_struct strt41 rfl rfl) rfl ?_
        refine sq_nil ?_
        refine any_one 8 rfl (by kernel_rfl) ?_
        refine ops_store 0 Tryz.sizeOf41 rfl rfl rfl rfl rfl rfl ?_
        refine ops_nil (fin_inv rfl (any_next (fun _ a b => ⟨a.tail, b.2.2⟩) ?_))
        refine any_done (by kernel_rfl) ?_
        refine fin_end rfl ?_
        exact mid_done (b33, b34, b32) ⟨rfl, rfl, rfl, rfl, trivial⟩ (pf_takeB pf_here (pf_takeB pf_here pf_here)) (fun v _ h => by exact ⟨h.2.1, h.1, h.2.2.1, trivial⟩)
      · skip
        refine ops_call (named_c [67]) rfl pf_nil (fun _ _ _ => by exact trivial) rfl fun _ => ?_
        refine ops_nil (fin_inv rfl (any_next (fun _ a b => ⟨a.tail, b⟩) ?_))
        refine any_two 2 5 rfl rfl (by kernel_rfl) ?_ ?_
        · skip
          refine ops_slit Tryz.runUnderlying36 Tryz.sizeOf38 Tryz.zeroValue38 rfl rfl rfl rfl rfl rfl fun b35 => ?_
          refine ok_giveR (List.flatMap Con.cells [(Con.mk 3 [65] 0 0 none 0 []), (Con.mk 3 [66] 0 0 none 0 [])]) pf_here rfl ?_
          refine ops_nil (fin_inv rfl (any_next (fun _ a b => ⟨a.tail, b.2⟩) ?_))
          refine any_sq 3 [3] (by kernel_rfl) (fun _ a b => ⟨a.tail, b.2⟩) ?_
          refine sq_val rfl (yld_struct strt38 rfl rfl) rfl ?_
          refine sq_nil ?_
          refine any_one 5 rfl (by kernel_rfl) ?_
          refine ops_call (some_c [114] (Con.mk 3 [67] 0 0 none 0 [])) rfl pf_nil (fun _ _ _ => by exact trivial) rfl fun b36 => ?_
          refine ops_nil (fin_inv rfl (any_next (fun _ a b => ⟨a.tail, b.2.2⟩) ?_))
          refine any_sq 1 [6] (by kernel_rfl) (fun _ a b => ⟨a.tail, b.2.2⟩) ?_
          refine sq_val rfl (yld_struct strt41 rfl rfl) rfl ?_
          refine sq_nil ?_
          refine any_one 8 rfl (by kernel_rfl) ?_
          refine ops_store 0 Tryz.sizeOf41 rfl rfl rfl rfl rfl rfl ?_
          refine ops_nil (fin_inv rfl (any_next (fun _ a b => ⟨a.tail, b.2.2⟩) ?_))
          refine any_done (by kernel_rfl) ?_
          refine fin_end rfl ?_
          exact mid_done (b35, b36, b32) ⟨rfl, rfl, rfl, rfl, trivial⟩ (pf_takeB pf_here (pf_takeB pf_here pf_here)) (fun v _ h => by exact ⟨h.2.1, h.1, h.2.2.1, trivial⟩)
        · skip
          refine ops_call (some_c [114] (Con.mk 3 [67] 0 0 none 0 [])) rfl pf_nil (fun _ _ _ => by exact trivial) rfl fun b37 => ?_
          refine ops_nil (fin_inv rfl (any_next (fun _ a b => ⟨a.tail, b.2⟩) ?_))
          refine any_one 2 rfl (by kernel_rfl) ?_
          refine ops_slit Tryz.runUnderlying36 Tryz.sizeOf38 Tryz.zeroValue38 rfl rfl rfl rfl rfl rfl fun b38 => ?_
          refine ok_giveR (List.flatMap Con.cells [(Con.mk 3 [65] 0 0 none 0 []), (Con.mk 3 [66] 0 0 none 0 [])]) pf_here rfl ?_
          refine ops_nil (fin_inv rfl (any_next (fun _ a b => ⟨a.tail, b.2.2⟩) ?_))
          refine any_sq 1 [3, 6] (by kernel_rfl) (fun _ a b => ⟨a.tail, b.2.2⟩) ?_
          refine sq_val rfl (yld_struct strt38 rfl rfl) rfl ?_
          refine sq_val rfl (yld_struct strt41 rfl rfl) rfl ?_
          refine sq_nil ?_
          refine any_one 8 rfl (by kernel_rfl) ?_
          refine ops_store 0 Tryz.sizeOf41 rfl rfl rfl rfl rfl rfl ?_
          refine ops_nil (fin_inv rfl (any_next (fun _ a b => ⟨a.tail, b.2.2⟩) ?_))
          refine any_done (by kernel_rfl) ?_
          refine fin_end rfl ?_
          exact mid_done (b38, b37, b32) ⟨rfl, rfl, rfl, rfl, trivial⟩ (pf_takeB pf_here (pf_takeB pf_here pf_here)) (fun v _ h => by exact ⟨h.1, h.2.1, h.2.2.1, trivial⟩)
  · skip
    rintro ⟨z3_2, z3_5c0, z3_7⟩
    dsimp only
    refine fin_next rfl (run_seq (run_seq (run_region (ops_val (yld_loadS 0 Tryz.isAgg41 Tryz.sizeOf41 rfl rfl rfl) rfl ?_))))
    refine ops_val (yld_struct strt31 rfl rfl) rfl ?_
    refine ops_val (yld_struct strt31 rfl rfl) rfl ?_
    refine ops_val (yld_struct strt31 rfl rfl) rfl ?_
    refine ops_slit Tryz.runUnderlying25 Tryz.sizeOf31 Tryz.zeroValue31 rfl rfl rfl rfl rfl rfl fun b39 => ?_
    refine ok_giveR (List.flatMap Pc.cells [(Pc.mk 2 [65] [66] [60, 65, 32, 97, 110, 100, 32, 66, 62] [] [] [] 0 0 0), (Pc.mk 3 [60, 115, 111, 109, 101, 32, 114, 32, 67, 62] [] [67] [114] [] [] 0 0 0), (Pc.mk 1 [60, 65, 32, 97, 110, 100, 32, 66, 62] [] [60, 115, 111, 109, 101, 32, 114, 32, 67, 62] [] [] [] 0 0 0)]) pf_here rfl ?_
    refine ops_call (flattens_c (Ax.mk 1 false (Con.mk 5 [] 0 0 (some ⟨z3_2, 0, none⟩) 2 [(Con.mk 3 [65] 0 0 none 0 []), (Con.mk 3 [66] 0 0 none 0 [])]) (Con.mk 6 [114] 0 0 (some ⟨z3_5c0, 0, none⟩) 1 [(Con.mk 3 [67] 0 0 none 0 [])]) none 0 [] [] [] []) (ok_flat1 z3_2 z3_5c0) [(Pc.mk 2 [65] [66] [60, 65, 32, 97, 110, 100, 32, 66, 62] [] [] [] 0 0 0), (Pc.mk 3 [60, 115, 111, 109, 101, 32, 114, 32, 67, 62] [] [67] [114] [] [] 0 0 0), (Pc.mk 1 [60, 65, 32, 97, 110, 100, 32, 66, 62] [] [60, 115, 111, 109, 101, 32, 114, 32, 67, 62] [] [] [] 0 0 0)] (some ⟨b39, 0, none⟩) 3 (by decide) (flat1 z3_2 z3_5c0)) rfl pf_nil (fun v _ h => by exact ⟨⟨⟨h.2.1, ⟨⟨.inl rfl, trivial⟩, ⟨⟨.inl rfl, trivial⟩, trivial⟩⟩⟩, ⟨h.2.2.1, ⟨⟨.inl rfl, trivial⟩, trivial⟩⟩, (.inl rfl)⟩, h.1, h.2.2.2.1, trivial⟩) rfl fun _ => ?_
    refine ops_val (yld_not rfl) rfl ?_
    refine ops_nil (fin_next rfl (run_cond_f rfl (run_skip (fin_next rfl (run_seq (run_seq ?_))))))
    refine run_cut (ι := Nat × Nat) (fun z => [(0, .bool false), (1, .pointer (some ⟨b1, 0, none⟩)), (40, .bool false)]) (fun z => ((z3_7, .cells #[.int .i64 1, .bool false, .int .i64 5, str [], .int .i64 0, .int .i64 0, .slice (some ⟨z3_2, 0, none⟩) (List.length [(Con.mk 3 [65] 0 0 none 0 []), (Con.mk 3 [66] 0 0 none 0 [])]) 2, .int .i64 6, str [114], .int .i64 0, .int .i64 0, .slice (some ⟨z3_5c0, 0, none⟩) (List.length [(Con.mk 3 [67] 0 0 none 0 [])]) 1, .slice none 0 0, str [], str [], str []] 41 (0, 0)) :: ((b2, .cells #[.int .i64 7, str [97, 103, 101], .int .i64 0, .int .i64 17, .slice none 0 0] 38 (0, 0)) :: ((b1, .cells #[.int .i64 3, str [65], .int .i64 0, .int .i64 0, .slice none 0 0] 38 (0, 0)) :: [])))) (fun z => [rowF (some ⟨z.1, 0, none⟩) (List.flatMap Pc.cells [(Pc.mk 9 [] [] [60, 97, 103, 101, 32, 105, 110, 32, 48, 32, 116, 111, 32, 49, 55, 62] [97, 103, 101] [] [] 0 17 0), (Pc.mk 1 [60, 97, 103, 101, 32, 105, 110, 32, 48, 32, 116, 111, 32, 49, 55, 62] [] [77, 105, 110, 111, 114] [] [] [] 0 0 0)]), rowF (some ⟨z.2, 0, none⟩) (List.flatMap Pc.cells [(Pc.mk 2 [65] [65] [33] [] [] [] 0 0 0)]), rowF (some ⟨b39, 0, none⟩) (List.flatMap Pc.cells [(Pc.mk 2 [65] [66] [60, 65, 32, 97, 110, 100, 32, 66, 62] [] [] [] 0 0 0), (Pc.mk 3 [60, 115, 111, 109, 101, 32, 114, 32, 67, 62] [] [67] [114] [] [] 0 0 0), (Pc.mk 1 [60, 65, 32, 97, 110, 100, 32, 66, 62] [] [60, 115, 111, 109, 101, 32, 114, 32, 67, 62] [] [] [] 0 0 0)]), rowF (some ⟨z3_2, 0, none⟩) (List.flatMap Con.cells [(Con.mk 3 [65] 0 0 none 0 []), (Con.mk 3 [66] 0 0 none 0 [])]), rowF (some ⟨z3_5c0, 0, none⟩) (List.flatMap Con.cells [(Con.mk 3 [67] 0 0 none 0 [])]), tabs]) ?_ ?_
    · skip
      refine run_draw' (by kernel_rfl) ?_
      refine any_sq 13 [0, 1, 2, 3] (by kernel_rfl) (fun _ a b => ⟨a, b⟩) ?_
      refine sq_val rfl (yld_loadS 2 Tryz.isAgg38 Tryz.sizeOf38 rfl rfl rfl) rfl ?_
      refine sq_val rfl (yld_loadS 2 Tryz.isAgg38 Tryz.sizeOf38 rfl rfl rfl) rfl ?_
      refine sq_val rfl (yld_struct strt41 rfl rfl) rfl ?_
      refine sq_val rfl (yld_struct strt31 rfl rfl) rfl ?_
      refine sq_nil ?_
      refine any_one 4 rfl (by kernel_rfl) ?_
      refine ops_slit Tryz.runUnderlying25 Tryz.sizeOf31 Tryz.zeroValue31 rfl rfl rfl rfl rfl rfl fun b40 => ?_
      refine ok_giveR (List.flatMap Pc.cells [(Pc.mk 2 [65] [65] [33] [] [] [] 0 0 0)]) pf_here rfl ?_
      refine ops_nil (fin_inv rfl (any_next (fun _ a b => ⟨a, b.2⟩) ?_))
      refine any_one 5 rfl (by kernel_rfl) ?_
      refine ops_call (flattens_c (Ax.mk 3 false (Con.mk 3 [65] 0 0 none 0 []) (Con.mk 3 [65] 0 0 none 0 []) none 0 [] [] [] []) ok_flat2 [(Pc.mk 2 [65] [65] [33] [] [] [] 0 0 0)] (some ⟨b40, 0, none⟩) 1 (by decide) flat2) rfl pf_nil (fun v _ h => by exact ⟨⟨⟨.inl rfl, trivial⟩, ⟨.inl rfl, trivial⟩, (.inl rfl)⟩, h.1, h.2.2.2.2.1, trivial⟩) rfl fun _ => ?_
      refine ops_nil (fin_inv rfl (any_next (fun _ a b => ⟨a, b.2⟩) ?_))
      refine any_sq 6 [6, 7, 8, 11, 12] (by kernel_rfl) (fun _ a b => ⟨a, b.2⟩) ?_
      refine sq_val rfl (yld_not rfl) rfl ?_
      refine sq_val rfl (yld_move rfl) rfl ?_
      refine sq_valY rfl rfl rfl (yld_loadS 1 Tryz.isAgg38 Tryz.sizeOf38 rfl rfl rfl) rfl ?_
      refine sq_valY rfl rfl rfl (yld_struct strt31 rfl rfl) rfl ?_
      refine sq_valY rfl rfl rfl (yld_struct strt31 rfl rfl) rfl ?_
      refine sq_nil ?_
      refine any_many [9, 13] (by kernel_rfl) (by simp) ?_
      intro i hi; simp only [List.mem_cons, List.not_mem_nil, or_false] at hi; rcases hi with rfl | rfl
      · refine ⟨_, rfl, ?_⟩
        refine ops_yes rfl rfl (ops_call (named_c [77, 105, 110, 111, 114]) rfl pf_nil (fun _ _ _ => by exact trivial) rfl fun _ => ?_)
        refine ops_nil (fin_inv rfl (any_next (fun _ a b => ⟨a, b.2⟩) ?_))
        refine any_sq 4 [10] (by kernel_rfl) (fun _ a b => ⟨a, b.2⟩) ?_
        refine sq_valY rfl rfl rfl (yld_struct strt41 rfl rfl) rfl ?_
        refine sq_nil ?_
        refine any_one 13 rfl (by kernel_rfl) ?_
        refine ops_yes rfl rfl (ops_slit Tryz.runUnderlying25 Tryz.sizeOf31 Tryz.zeroValue31 rfl rfl rfl rfl rfl rfl fun b41 => ?_)
        refine ok_giveR (List.flatMap Pc.cells [(Pc.mk 9 [] [] [60, 97, 103, 101, 32, 105, 110, 32, 48, 32, 116, 111, 32, 49, 55, 62] [97, 103, 101] [] [] 0 17 0), (Pc.mk 1 [60, 97, 103, 101, 32, 105, 110, 32, 48, 32, 116, 111, 32, 49, 55, 62] [] [77, 105, 110, 111, 114] [] [] [] 0 0 0)]) pf_here rfl ?_
        refine ops_nil (fin_inv rfl (any_next (fun _ a b => ⟨a, b.2.2⟩) ?_))
        refine any_one 14 rfl (by kernel_rfl) ?_
        refine ops_yes rfl rfl (ops_call (flattens_c (Ax.mk 1 false (Con.mk 7 [97, 103, 101] 0 17 none 0 []) (Con.mk 3 [77, 105, 110, 111, 114] 0 0 none 0 []) none 0 [] [] [] []) ok_flat3 [(Pc.mk 9 [] [] [60, 97, 103, 101, 32, 105, 110, 32, 48, 32, 116, 111, 32, 49, 55, 62] [97, 103, 101] [] [] 0 17 0), (Pc.mk 1 [60, 97, 103, 101, 32, 105, 110, 32, 48, 32, 116, 111, 32, 49, 55, 62] [] [77, 105, 110, 111, 114] [] [] [] 0 0 0)] (some ⟨b41, 0, none⟩) 2 (by decide) flat3) rfl pf_nil (fun v _ h => by exact ⟨⟨⟨.inl rfl, trivial⟩, ⟨.inl rfl, trivial⟩, (.inl rfl)⟩, h.1, h.2.2.2.2.2.1, trivial⟩) rfl fun _ => ?_)
        refine ops_nil (fin_inv rfl (any_next (fun _ a b => ⟨a, b.2.2⟩) ?_))
        refine any_sq 0 [15, 16] (by kernel_rfl) (fun _ a b => ⟨a, b.2.2⟩) ?_
        refine sq_valY rfl rfl rfl (yld_not rfl) rfl ?_
        refine sq_val rfl (yld_pick_f rfl rfl) rfl ?_
        refine sq_nil ?_
        refine any_done (by kernel_rfl) ?_
        refine fin_end rfl ?_
        exact mid_done (b41, b40) ⟨rfl, rfl, rfl, trivial⟩ (pf_takeB pf_here (pf_takeB pf_here pf_here)) (fun v _ h => by exact ⟨h.1, h.2.1, h.2.2.1, h.2.2.2.1, h.2.2.2.2.1, h.2.2.2.2.2.1, trivial⟩)
      · refine ⟨_, rfl, ?_⟩
        refine ops_yes rfl rfl (ops_slit Tryz.runUnderlying25 Tryz.sizeOf31 Tryz.zeroValue31 rfl rfl rfl rfl rfl rfl fun b42 => ?_)
        refine ok_giveR (List.flatMap Pc.cells [(Pc.mk 9 [] [] [60, 97, 103, 101, 32, 105, 110, 32, 48, 32, 116, 111, 32, 49, 55, 62] [97, 103, 101] [] [] 0 17 0), (Pc.mk 1 [60, 97, 103, 101, 32, 105, 110, 32, 48, 32, 116, 111, 32, 49, 55, 62] [] [77, 105, 110, 111, 114] [] [] [] 0 0 0)]) pf_here rfl ?_
        refine ops_nil (fin_inv rfl (any_next (fun _ a b => ⟨a, b.2.2⟩) ?_))
        refine any_one 9 rfl (by kernel_rfl) ?_
        refine ops_yes rfl rfl (ops_call (named_c [77, 105, 110, 111, 114]) rfl pf_nil (fun _ _ _ => by exact trivial) rfl fun _ => ?_)
        refine ops_nil (fin_inv rfl (any_next (fun _ a b => ⟨a, b.2.2⟩) ?_))
        refine any_sq 3 [10] (by kernel_rfl) (fun _ a b => ⟨a, b.2.2⟩) ?_
        refine sq_valY rfl rfl rfl (yld_struct strt41 rfl rfl) rfl ?_
        refine sq_nil ?_
        refine any_one 14 rfl (by kernel_rfl) ?_
        refine ops_yes rfl rfl (ops_call (flattens_c (Ax.mk 1 false (Con.mk 7 [97, 103, 101] 0 17 none 0 []) (Con.mk 3 [77, 105, 110, 111, 114] 0 0 none 0 []) none 0 [] [] [] []) ok_flat3 [(Pc.mk 9 [] [] [60, 97, 103, 101, 32, 105, 110, 32, 48, 32, 116, 111, 32, 49, 55, 62] [97, 103, 101] [] [] 0 17 0), (Pc.mk 1 [60, 97, 103, 101, 32, 105, 110, 32, 48, 32, 116, 111, 32, 49, 55, 62] [] [77, 105, 110, 111, 114] [] [] [] 0 0 0)] (some ⟨b42, 0, none⟩) 2 (by decide) flat3) rfl pf_nil (fun v _ h => by exact ⟨⟨⟨.inl rfl, trivial⟩, ⟨.inl rfl, trivial⟩, (.inl rfl)⟩, h.1, h.2.2.2.2.2.1, trivial⟩) rfl fun _ => ?_)
        refine ops_nil (fin_inv rfl (any_next (fun _ a b => ⟨a, b.2.2⟩) ?_))
        refine any_sq 0 [15, 16] (by kernel_rfl) (fun _ a b => ⟨a, b.2.2⟩) ?_
        refine sq_valY rfl rfl rfl (yld_not rfl) rfl ?_
        refine sq_val rfl (yld_pick_f rfl rfl) rfl ?_
        refine sq_nil ?_
        refine any_done (by kernel_rfl) ?_
        refine fin_end rfl ?_
        exact mid_done (b42, b40) ⟨rfl, rfl, rfl, trivial⟩ (pf_takeB pf_here (pf_takeB pf_here pf_here)) (fun v _ h => by exact ⟨h.1, h.2.1, h.2.2.1, h.2.2.2.1, h.2.2.2.2.1, h.2.2.2.2.2.1, trivial⟩)
    · skip
      rintro ⟨z6_13, z6_4⟩
      dsimp only
      refine fin_next rfl (run_cond_f rfl (run_skip (fin_next rfl (run_seq (run_seq (run_region (ops_val (yld_struct strt38 rfl rfl) rfl ?_)))))))
      refine ops_call (some_c [114] (Con.mk 1 [] 0 0 none 0 [])) rfl pf_nil (fun _ _ _ => by exact trivial) rfl fun b43 => ?_
      refine ops_val (yld_struct strt41 rfl rfl) rfl ?_
      refine ops_val (yld_struct strt31 rfl rfl) rfl ?_
      refine ops_val (yld_struct strt31 rfl rfl) rfl ?_
      refine ops_slit Tryz.runUnderlying25 Tryz.sizeOf31 Tryz.zeroValue31 rfl rfl rfl rfl rfl rfl fun b44 => ?_
      refine ok_giveR (List.flatMap Pc.cells [(Pc.mk 3 [60, 115, 111, 109, 101, 32, 114, 32, 101, 118, 101, 114, 121, 116, 104, 105, 110, 103, 62] [] [42] [114] [] [] 0 0 0), (Pc.mk 1 [123, 97, 125] [] [60, 115, 111, 109, 101, 32, 114, 32, 101, 118, 101, 114, 121, 116, 104, 105, 110, 103, 62] [] [] [] 0 0 0)]) pf_here rfl ?_
      refine ops_call (flattens_c (Ax.mk 8 false (Con.mk 0 [] 0 0 none 0 []) (Con.mk 6 [114] 0 0 (some ⟨b43, 0, none⟩) 1 [(Con.mk 1 [] 0 0 none 0 [])]) none 0 [] [] [97] []) (ok_flat4 b43) [(Pc.mk 3 [60, 115, 111, 109, 101, 32, 114, 32, 101, 118, 101, 114, 121, 116, 104, 105, 110, 103, 62] [] [42] [114] [] [] 0 0 0), (Pc.mk 1 [123, 97, 125] [] [60, 115, 111, 109, 101, 32, 114, 32, 101, 118, 101, 114, 121, 116, 104, 105, 110, 103, 62] [] [] [] 0 0 0)] (some ⟨b44, 0, none⟩) 2 (by decide) (flat4 b43)) rfl pf_nil (fun v _ h => by exact ⟨⟨⟨.inl rfl, trivial⟩, ⟨h.2.1, ⟨⟨.inl rfl, trivial⟩, trivial⟩⟩, (.inl rfl)⟩, h.1, h.2.2.2.2.2.2.2.1, trivial⟩) rfl fun _ => ?_
      refine ops_val (yld_not rfl) rfl ?_
      refine ops_val (yld_move rfl) rfl (ops_yes rfl rfl (ops_slit Tryz.runUnderlying39 Tryz.sizeOf9 Tryz.zeroValue9 rfl rfl rfl rfl rfl rfl fun b45 => ?_))
      refine ok_giveR (List.flatMap strC [[114], [114]]) pf_here rfl ?_
      refine ops_yes rfl rfl (ops_val (yld_struct strt41 rfl rfl) rfl ?_)
      refine ops_yes rfl rfl (ops_val (yld_struct strt31 rfl rfl) rfl ?_)
      refine ops_yes rfl rfl (ops_slit Tryz.runUnderlying25 Tryz.sizeOf31 Tryz.zeroValue31 rfl rfl rfl rfl rfl rfl fun b46 => ?_)
      refine ok_giveR (List.flatMap Pc.cells [(Pc.mk 6 [] [] [] [114] [114] [114] 0 0 0)]) pf_here rfl ?_
      refine ops_yes rfl rfl (ops_call (flattens_c (Ax.mk 6 false (Con.mk 0 [] 0 0 none 0 []) (Con.mk 0 [] 0 0 none 0 []) (some ⟨b45, 0, none⟩) 2 [[114], [114]] [114] [] []) (ok_flat5 b45) [(Pc.mk 6 [] [] [] [114] [114] [114] 0 0 0)] (some ⟨b46, 0, none⟩) 1 (by decide) (flat5 b45)) rfl pf_nil (fun v _ h => by exact ⟨⟨⟨.inl rfl, trivial⟩, ⟨.inl rfl, trivial⟩, h.2.1⟩, h.1, h.2.2.2.2.2.2.2.2.2.1, trivial⟩) rfl fun _ => ?_)
      refine ops_yes rfl rfl (ops_val (yld_not rfl) rfl ?_)
      refine ops_val (yld_pick_f rfl rfl) rfl ?_
      refine ops_nil (fin_next rfl (run_cond_f rfl (run_skip (fin_next rfl (run_seq ?_)))))
      refine run_draw' (by kernel_rfl) ?_
      refine any_sq 11 [0] (by kernel_rfl) (fun _ a b => ⟨a, b⟩) ?_
      refine sq_val rfl (yld_loadS 2 Tryz.isAgg38 Tryz.sizeOf38 rfl rfl rfl) rfl ?_
      refine sq_nil ?_
      refine any_one 1 rfl (by kernel_rfl) ?_
      refine ops_call (named_c [66]) rfl pf_nil (fun _ _ _ => by exact trivial) rfl fun _ => ?_
      refine ops_nil (fin_inv rfl (any_next (fun _ a b => ⟨a, b⟩) ?_))
      refine any_one 2 rfl (by kernel_rfl) ?_
      refine ops_call (some_c [114] (Con.mk 3 [66] 0 0 none 0 [])) rfl pf_nil (fun _ _ _ => by exact trivial) rfl fun b47 => ?_
      refine ops_nil (fin_inv rfl (any_next (fun _ a b => ⟨a, b.2⟩) ?_))
      refine any_sq 8 [3] (by kernel_rfl) (fun _ a b => ⟨a, b.2⟩) ?_
      refine sq_val rfl (yld_struct strt41 rfl rfl) rfl ?_
      refine sq_nil ?_
      refine any_one 4 rfl (by kernel_rfl) ?_
      refine ops_call (goal_e (Ax.mk 1 false (Con.mk 3 [65] 0 0 none 0 []) (Con.mk 6 [114] 0 0 (some ⟨b47, 0, none⟩) 1 [(Con.mk 3 [66] 0 0 none 0 [])]) none 0 [] [] [] []) (ok_goal b47) (goalS b47)) rfl pf_nil (fun v _ h => by exact ⟨⟨⟨.inl rfl, trivial⟩, ⟨h.1, ⟨⟨.inl rfl, trivial⟩, trivial⟩⟩, (.inl rfl)⟩, h.2.2.2.2.2.2.2.2.2.2.1, trivial⟩) rfl fun ⟨⟨adp, cpp, adf, cpf⟩, hgl⟩ => ?_
      dsimp only
      refine ops_nil (fin_inv rfl (any_next (fun _ a b => ⟨a, b.2.2.2⟩) ?_))
      refine any_sq 0 [5, 6, 7, 8, 9, 10, 11] (by kernel_rfl) (fun _ a b => ⟨a, b.2.2.2⟩) ?_
      refine sq_val rfl (yld_move rfl) rfl ?_
      refine sq_val rfl (yld_extract rfl rfl) rfl ?_
      refine sq_val rfl (yld_extract rfl rfl) rfl ?_
      refine sq_val rfl (yld_extract rfl rfl) rfl ?_
      refine sq_val rfl (yld_assign rfl) rfl ?_
      refine sq_val rfl (yld_assign rfl) rfl ?_
      refine sq_val rfl (yld_assign rfl) rfl ?_
      refine sq_nil ?_
      refine any_done (by kernel_rfl) ?_
      refine fin_next rfl (run_seq (run_region (ops_val (yld_struct strt31 rfl rfl) rfl ?_)))
      refine ops_val (yld_struct strt31 rfl rfl) rfl ?_
      refine ops_val (yld_struct strt31 rfl rfl) rfl ?_
      refine ops_slit Tryz.runUnderlying25 Tryz.sizeOf31 Tryz.zeroValue31 rfl rfl rfl rfl rfl rfl fun b48 => ?_
      refine ok_giveR (List.flatMap Pc.cells [(Pc.mk 1 [65] [] [42] [] [] [] 0 0 (-1)), (Pc.mk 1 [60, 115, 111, 109, 101, 32, 114, 32, 66, 62] [] [42] [] [] [] 0 0 (-1)), (Pc.mk 4 [66] [] [60, 115, 111, 109, 101, 32, 114, 32, 66, 62] [114] [] [] 0 0 (-1))]) pf_here rfl ?_
      refine ops_val (yld_assign rfl) rfl (ops_nil (fin_next rfl (run_seq (run_region (ops_val (yld_move rfl) rfl (ops_val (yld_move rfl) rfl (ops_call (same_e [(Pc.mk 1 [65] [] [42] [] [] [] 0 0 (-1)), (Pc.mk 1 [60, 115, 111, 109, 101, 32, 114, 32, 66, 62] [] [42] [] [] [] 0 0 (-1)), (Pc.mk 4 [66] [] [60, 115, 111, 109, 101, 32, 114, 32, 66, 62] [114] [] [] 0 0 (-1))] adp (some ⟨b48, 0, none⟩) cpp 3 (by decide)) rfl pf_nil (fun v _ h => by exact ⟨h.2.1, h.1, trivial⟩) rfl fun _ => ?_)))))))
      refine ops_val (yld_move rfl) rfl (ops_yes rfl rfl (ops_val (yld_move rfl) rfl (ops_yes rfl rfl (ops_val (yld_lenS Tryz.runUnderlying43 rfl) rfl ?_))))
      refine ops_yes rfl rfl (ops_val (yld_eq (yld_eql rfl rfl) (show _ = Value.bool true from congrArg Value.bool (by decide))) rfl ?_)
      refine ops_val (yld_pick_t rfl rfl) rfl ?_
      refine ops_val (yld_move rfl) rfl (ops_yes rfl rfl (ops_val (yld_move rfl) rfl (ops_yes rfl rfl (ops_val (yld_indexR Tryz.runUnderlying43 Tryz.sizeOf50 rfl rfl (fun v _ h => row_adr (n := 6) Fc.cells_len (by decide) (by exact h.2.2.1) (show [(Fc.mk 1 [65] [60, 115, 111, 109, 101, 32, 114, 32, 66, 62] [] 0 0)][0]? = some _ from rfl)) (by omega) (by first | omega | (simp; done))) rfl ?_))))
      refine ops_yes rfl rfl (ops_val (yld_loadRS (ad := adf) (us := Fc.cells (Fc.mk 1 [65] [60, 115, 111, 109, 101, 32, 114, 32, 66, 62] [] 0 0)) Tryz.isAgg50 Tryz.sizeOf50 rfl (fun v _ h => by exact h.2.2.1) (Fc.cells_len _) (row_cells Fc.cells_len (show [(Fc.mk 1 [65] [60, 115, 111, 109, 101, 32, 114, 32, 66, 62] [] 0 0)][0]? = some _ from rfl))) rfl ?_)
      refine ops_yes rfl rfl (ops_val (yld_struct strt50 rfl rfl) rfl ?_)
      refine ops_yes rfl rfl (ops_val (yld_eq (yld_eqlFc (p := (Fc.mk 1 [65] [60, 115, 111, 109, 101, 32, 114, 32, 66, 62] [] 0 0)) (q := (Fc.mk 1 [65] [60, 115, 111, 109, 101, 32, 114, 32, 66, 62] [] 0 0)) rfl rfl) (show _ = Value.bool true from congrArg Value.bool (decide_eq_true rfl))) rfl ?_)
      refine ops_val (yld_pick_t rfl rfl) rfl ?_
      refine ops_val (yld_move rfl) rfl (ops_yes rfl rfl (ops_val (yld_move rfl) rfl (ops_yes rfl rfl (ops_val (yld_eq (yld_eql rfl rfl) (show _ = Value.bool true from congrArg Value.bool (by decide))) rfl ?_))))
      refine ops_val (yld_pick_t rfl rfl) rfl ?_
      refine ops_val (yld_move rfl) rfl (ops_yes rfl rfl (ops_val (yld_move rfl) rfl (ops_yes rfl rfl (ops_call (check_e [(Pc.mk 1 [65] [] [42] [] [] [] 0 0 (-1)), (Pc.mk 1 [60, 115, 111, 109, 101, 32, 114, 32, 66, 62] [] [42] [] [] [] 0 0 (-1)), (Pc.mk 4 [66] [] [60, 115, 111, 109, 101, 32, 114, 32, 66, 62] [114] [] [] 0 0 (-1))] adp cpp (by decide) (Pc.sm_all rfl) (er := 0) (by kernel_rfl)) rfl pf_nil (fun v _ h => by exact ⟨h.2.1, h.2.2.2.2.2.2.2.2.2.2.2.2.2.1.2.2.1, trivial⟩) rfl fun _ => ?_))))
      refine ops_yes rfl rfl (ops_val (yld_eq (yld_eql rfl rfl) (show _ = Value.bool true from congrArg Value.bool (by decide))) rfl ?_)
      refine ops_val (yld_pick_t rfl rfl) rfl ?_
      refine ops_val (yld_move rfl) rfl (ops_yes rfl rfl (ops_val (yld_struct strt31 rfl rfl) rfl ?_))
      refine ops_yes rfl rfl (ops_slit Tryz.runUnderlying25 Tryz.sizeOf31 Tryz.zeroValue31 rfl rfl rfl rfl rfl rfl fun b49 => ?_)
      refine ok_giveR (List.flatMap Pc.cells [(Pc.mk 0 [] [] [] [] [] [] 0 0 0)]) pf_here rfl ?_
      refine ops_yes rfl rfl (ops_call (check_e [(Pc.mk 0 [] [] [] [] [] [] 0 0 0)] (some ⟨b49, 0, none⟩) 1 (by decide) (Pc.sm_all rfl) (er := 1) (by kernel_rfl)) rfl pf_nil (fun v _ h => by exact ⟨h.1, h.2.2.2.2.2.2.2.2.2.2.2.2.2.2.1.2.2.1, trivial⟩) rfl fun _ => ?_)
      refine ops_yes rfl rfl (ops_val (yld_eq (yld_eql rfl rfl) (show _ = Value.bool true from congrArg Value.bool (by decide))) rfl ?_)
      refine ops_val (yld_pick_t rfl rfl) rfl ?_
      refine ops_val (yld_assign rfl) rfl (ops_nil (fin_next rfl (run_ret ?_)))
      exact ret1 Tryz.results10 () rfl (.refl _) (fun _ _ _ => trivial)

end Go.Proofs.YtoafjmalfclpoaaGreatDoor

/-
  From readings of arguments and of listed variables to the data of the small logic; what is read before is read behind.
-/
namespace Go.Vs
open Go Go.Sx
/-- all memory that is there lasts -/
def vw (W : World) : Vw := ⟨fun b => b < W.heap.size, W⟩
theorem vw_sat (W : World) : (vw W).sat [] := ⟨(fun _ h => by cases h), (by simp), fun _ h => h⟩
section
variable {H : Type} {enc : TypeId × Value → H} {P : Program} {W : World}
abbrev wok (l : List Nat) : Prop := l.all (· ≤ reachBytes) = true
theorem wok_append {a b : List Nat} : wok (a ++ b) ↔ wok a ∧ wok b := by simp [wok, List.all_append]
theorem wok_cons {n : Nat} {b : List Nat} : wok (n :: b) ↔ n ≤ reachBytes ∧ wok b := by simp [wok]
theorem wokAll {e : TypeId} : ∀ {ds : List (DataW H)}, wok (DataW.weightsAll P e ds) → ∀ d ∈ ds, wok (d.weights P e)
  | [], _, _, h => by cases h
  | x :: ds, hw, d, hd => by
    rw [DataW.weightsAll, wok_append] at hw
    rcases List.mem_cons.1 hd with rfl | hd
    · exact hw.1
    · exact wokAll hw.2 d hd

/-- a slice that is read, as a row of data -/
theorem rows_of {α : Type} [Inhabited α] (f : α → List Value) (k : Nat) (hk : ∀ x, (f x).length = k) (hk0 : 0 < k) (Q : α → Prop) {ts te : TypeId} (hs : P.underlying ts = some (.slice te)) (hc : P.cellsOf te = k) {n : Nat} {cs : List Value} {x : DataW H × List MemPlace}
    (hread : ∀ m, m < n → ∀ cs' y, DataW.trod enc P W 0 (fun _ => true) true m te cs' = some y → wok (y.1.weights P te) → ∃ c, cs' = f c ∧ Q c)
    (h : DataW.trod enc P W 0 (fun _ => true) true n ts cs = some x) (hw : wok (x.1.weights P ts)) :
    ∃ (l : List α) (ad : Option Addr) (cap : Nat), cs = [.slice ad l.length cap] ∧ RowAt (vw W) ad (l.flatMap f) ∧ (∀ c ∈ l, Q c) ∧ l.length ≤ cap ∧ cap * P.bytesOf te ≤ reachBytes := by
  rcases DataW.trod_slice hs h with ⟨h0, _⟩ | ⟨a, len, cap, elems, rest, m, hn, rfl, rfl, _, hl, _, hlen, hel, hsp, _⟩
  · exact ⟨[], none, 0, h0, .inl rfl, (fun _ h => by cases h), Nat.le_refl _, by simp⟩
  · obtain ⟨hr, _⟩ := hsp rfl
    simp only [DataW.weights, hs, wok_cons, wok_append, List.length_map] at hw
    have hcap : cap * P.bytesOf te ≤ reachBytes := by
      have e : elems.length + rest.length = cap := by omega
      rw [← e]; exact hw.1
    have hone : ∀ i, i < len → ∃ c : α, W.cells? 0 (a.add (i * k)) k = some (f c) ∧ Q c := fun i hi => by
      have he := hel i hi
      rw [hc, List.getElem?_eq_getElem (by omega)] at he
      obtain ⟨cs', h1, h2⟩ := Option.bind_eq_some_iff.1 he
      obtain ⟨c, rfl, hq⟩ := hread m (by omega) cs' _ h2 (wokAll hw.2.1 _ (List.mem_map_of_mem (List.getElem_mem (by omega))))
      exact ⟨c, h1, hq⟩
    obtain ⟨C, hC⟩ := Deep.choose_lt hone
    refine ⟨(List.range len).map C, some a, cap, by simp, ?_, ?_, by simpa using hl, hcap⟩
    · by_cases h0 : len = 0
      · left; simp [h0]
      · have h1 := (hC 0 (by omega)).1
        obtain ⟨_, _, hcell⟩ := World.cells?_some h1
        have hc0 := hcell 0 hk0
        have hlt : 0 < (f (C 0)).length := by rw [hk]; exact hk0
        rw [List.getElem?_eq_getElem hlt] at hc0
        cases hb : W.heap[a.block]? with
        | none => simp [World.cell?, Addr.add, hb] at hc0
        | some o =>
          cases o with
          | cells arr T fz =>
            have hspot : a.spot = none := by
              cases hsp2 : a.spot with
              | none => rfl
              | some s => simp [World.cell?, Addr.add, hb, hsp2] at hc0
            obtain ⟨b, off, sp⟩ := a
            simp only at hspot hb
            subst hspot
            right
            refine ⟨b, off, arr, T, fz, rfl, (Array.getElem?_eq_some_iff.1 hb).1, hb, fun j y hj => ?_⟩
            have hjlt : j < len * k := by
              have := (List.getElem?_eq_some_iff.1 hj).1
              rw [fm_len f k hk] at this
              simpa using this
            have hi : j / k < len := Nat.div_lt_of_lt_mul (by rw [Nat.mul_comm]; exact hjlt)
            have hr' : j % k < k := Nat.mod_lt _ hk0
            have e : j = (j / k) * k + j % k := by rw [Nat.mul_comm]; exact (Nat.div_add_mod j k).symm
            have hget : ((List.range len).map C)[j / k]? = some (C (j / k)) := by simp [hi]
            rw [e, fm_get f k hk _ (j / k) (j % k) _ hget hr'] at hj
            obtain ⟨_, _, hcell⟩ := World.cells?_some (hC (j / k) hi).1
            have := hcell (j % k) hr'
            rw [hj, addr_add, addr_add] at this
            rw [e]
            simpa [World.cell?, hb, Nat.add_assoc] using this
          | _ => simp [World.cell?, Addr.add, hb] at hc0
    · intro c hc'
      obtain ⟨i, hi, rfl⟩ := List.mem_map.1 hc'
      exact (hC i (by simpa using hi)).2
end
instance : Inhabited Con := ⟨.mk 0 [] 0 0 none 0 []⟩
instance : Inhabited Ax := ⟨⟨0, false, default, default, none, 0, [], [], [], []⟩⟩
instance : Inhabited Pc := ⟨⟨0, [], [], [], [], [], [], 0, 0, 0⟩⟩

/-- the types of a program, as far as these data go -/
structure Tys (P : Program) (tI tB tS tSs tC tCs tA tAs tP tPs : TypeId) : Prop where
  i : P.underlying tI = some (.int .i64)
  b : P.underlying tB = some .bool
  s : P.underlying tS = some .string
  ss : P.underlying tSs = some (.slice tS)
  c : ∃ fs, P.underlying tC = some (.struct fs) ∧ fs.toList.map (fun f => (f.type, f.offset)) = [(tI, 0), (tS, 1), (tI, 2), (tI, 3), (tCs, 4)]
  cs : P.underlying tCs = some (.slice tC)
  a : ∃ fs, P.underlying tA = some (.struct fs) ∧ fs.toList.map (fun f => (f.type, f.offset)) = [(tI, 0), (tB, 1), (tC, 2), (tC, 7), (tSs, 12), (tS, 13), (tS, 14), (tS, 15)]
  axs : P.underlying tAs = some (.slice tA)
  p : ∃ fs, P.underlying tP = some (.struct fs) ∧ fs.toList.map (fun f => (f.type, f.offset)) = [(tI, 0), (tS, 1), (tS, 2), (tS, 3), (tS, 4), (tS, 5), (tS, 6), (tI, 7), (tI, 8), (tI, 9)]
  ps : P.underlying tPs = some (.slice tP)
  ci : P.cellsOf tI = 1
  cb : P.cellsOf tB = 1
  cs1 : P.cellsOf tS = 1
  css : P.cellsOf tSs = 1
  cc : P.cellsOf tC = 5
  ccs : P.cellsOf tCs = 1
  ca : P.cellsOf tA = 16
  cp : P.cellsOf tP = 10
  bs : P.bytesOf tS = 16
  bc : P.bytesOf tC = 64
  ba : P.bytesOf tA = 216
  bp : P.bytesOf tP = 128
section
variable {H : Type} {enc : TypeId × Value → H} {P : Program} {W : World} {tI tB tS tSs tC tCs tA tAs tP tPs : TypeId} (X : Tys P tI tB tS tSs tC tCs tA tAs tP tPs)
theorem fields_of {t : TypeId} {fs : Array Field} {L : List (TypeId × Nat)} {cs : List Value} {n : Nat} {x : DataW H × List MemPlace} (ht : P.underlying t = some (.struct fs)) (hL : fs.toList.map (fun f => (f.type, f.offset)) = L) (h : DataW.trod enc P W 0 (fun _ => true) true n t cs = some x) :
    ∃ (xs : List (DataW H × List MemPlace)) (m : Nat), n = m + 1 ∧ x.1 = .agg (xs.map (·.1)) ∧ cs.length = P.cellsOf t ∧ xs.length = L.length ∧ (∀ (i : Nat) q, L[i]? = some q → DataW.trod enc P W 0 (fun _ => true) true m q.1 ((cs.drop q.2).take (P.cellsOf q.1)) = xs[i]?) ∧
      (x.1.weights P t = DataW.weightsEach P (L.map (·.1)) (xs.map (·.1))) := by
  obtain ⟨xs, m, hn, hx, hl, hlen, hf⟩ := DataW.trod_struct ht h
  refine ⟨xs, m, hn, by rw [hx], hl, by rw [hlen, ← hL]; simp, fun i q hq => ?_, ?_⟩
  · rw [← hL, List.getElem?_map, Option.map_eq_some_iff] at hq
    obtain ⟨f, hf', rfl⟩ := hq
    exact hf i f (by simpa using hf')
  · rw [hx]; simp only [DataW.weights, ht]
    congr 1
    rw [← hL, List.map_map]; rfl
include X
theorem int_of {n : Nat} {cs : List Value} {x : DataW H × List MemPlace} (h : DataW.trod enc P W 0 (fun _ => true) true n tI cs = some x) : ∃ k : Int, cs = [.int .i64 k] ∧ -9223372036854775808 ≤ k ∧ k ≤ 9223372036854775807 := by
  obtain ⟨k, h1, _, h3⟩ := DataW.trod_int X.i h
  have := bounds_i64 h3
  exact ⟨k, h1, this.1, this.2⟩
theorem bool_of {n : Nat} {cs : List Value} {x : DataW H × List MemPlace} (h : DataW.trod enc P W 0 (fun _ => true) true n tB cs = some x) : ∃ b : Bool, cs = [.bool b] := by
  obtain ⟨b, h1, _⟩ := DataW.trod_bool X.b h
  exact ⟨b, h1⟩
theorem str_of {n : Nat} {cs : List Value} {x : DataW H × List MemPlace} (h : DataW.trod enc P W 0 (fun _ => true) true n tS cs = some x) (hw : wok (x.1.weights P tS)) : ∃ s : Str, cs = [str s] ∧ s.length ≤ 140737488351232 := by
  obtain ⟨s, h1, h2, _⟩ := DataW.trod_string X.s h
  rw [h2] at hw
  simp [wok, DataW.weights, reachBytes] at hw
  refine ⟨s.data.toList, by rw [h1]; rfl, by have := of_decide_eq_true hw; simpa using this⟩
theorem con_of : ∀ (n : Nat) (cs : List Value) (x : DataW H × List MemPlace), DataW.trod enc P W 0 (fun _ => true) true n tC cs = some x → wok (x.1.weights P tC) → ∃ c : Con, cs = c.cells ∧ c.mem (vw W) ∧ c.ok := by
  intro n
  induction n using Nat.strongRecOn with
  | ind n ih =>
    intro cs x h hw
    obtain ⟨fs, hu, hL⟩ := X.c
    obtain ⟨xs, m, hn, hx, hl, hlen, hf, hwe⟩ := fields_of hu hL h
    rw [hwe] at hw
    match xs, hlen with
    | [x0, x1, x2, x3, x4], _ =>
    simp only [List.map_cons, List.map_nil, DataW.weightsEach, wok_append] at hw
    have f0 := hf 0 _ rfl; have f1 := hf 1 _ rfl; have f2 := hf 2 _ rfl; have f3 := hf 3 _ rfl; have f4 := hf 4 _ rfl
    simp only [List.getElem?_cons_zero, List.getElem?_cons_succ, X.ci, X.cs1, X.ccs] at f0 f1 f2 f3 f4
    obtain ⟨k, e0, k1, k2⟩ := int_of X f0
    obtain ⟨nm, e1, n1⟩ := str_of X f1 hw.2.1
    obtain ⟨lo, e2, l1, l2⟩ := int_of X f2
    obtain ⟨hi, e3, h1, h2⟩ := int_of X f3
    obtain ⟨l, ad, cap, e4, hrow, hq, hlc, hcap⟩ := rows_of Con.cells 5 Con.cells_len (by decide) (fun c => c.mem (vw W) ∧ c.ok) X.cs X.cc (fun m' hm' cs' y hy hwy => by
      obtain ⟨c, g1, g2, g3⟩ := ih m' (by omega) cs' y hy hwy
      exact ⟨c, g1, g2, g3⟩) f4 hw.2.2.2.2.1
    rw [X.cc] at hl
    match cs, hl with
    | [c0, c1, c2, c3, c4], _ =>
    simp only [List.drop_succ_cons, List.drop_zero, List.take_succ_cons, List.take_zero, List.cons.injEq, and_true] at e0 e1 e2 e3 e4
    subst e0 e1 e2 e3 e4
    refine ⟨.mk k nm lo hi ad cap l, rfl, ?_, k1, k2, n1, l1, l2, h1, h2, hlc, ?_, Con.oks_iff.2 fun p hp => (hq p hp).2⟩
    · rw [Con.mem_iff]; exact ⟨hrow, fun p hp => (hq p hp).1⟩
    · rw [X.bc] at hcap; simp only [reachBytes] at hcap; omega
theorem strs_of {n : Nat} {cs : List Value} {x : DataW H × List MemPlace} (h : DataW.trod enc P W 0 (fun _ => true) true n tSs cs = some x) (hw : wok (x.1.weights P tSs)) :
    ∃ (l : List Str) (ad : Option Addr) (cap : Nat), cs = [.slice ad l.length cap] ∧ RowAt (vw W) ad (l.flatMap strC) ∧ (∀ s ∈ l, s.length ≤ 140737488351232) ∧ l.length ≤ cap ∧ cap ≤ 8796093021952 := by
  obtain ⟨l, ad, cap, e, hrow, hq, hlc, hcap⟩ := rows_of strC 1 strC_len (by decide) (fun s => s.length ≤ 140737488351232) X.ss X.cs1 (fun m' _ cs' y hy hwy => by
    obtain ⟨s, g1, g2⟩ := str_of X hy hwy
    exact ⟨s, g1, g2⟩) h hw
  rw [X.bs] at hcap; simp only [reachBytes] at hcap
  exact ⟨l, ad, cap, e, hrow, hq, hlc, by omega⟩
theorem ax_of {n : Nat} {cs : List Value} {x : DataW H × List MemPlace} (h : DataW.trod enc P W 0 (fun _ => true) true n tA cs = some x) (hw : wok (x.1.weights P tA)) : ∃ a : Ax, cs = a.cells ∧ a.mem (vw W) ∧ a.ok := by
  obtain ⟨fs, hu, hL⟩ := X.a
  obtain ⟨xs, m, hn, hx, hl, hlen, hf, hwe⟩ := fields_of hu hL h
  rw [hwe] at hw
  match xs, hlen with
  | [x0, x1, x2, x3, x4, x5, x6, x7], _ =>
  simp only [List.map_cons, List.map_nil, DataW.weightsEach, wok_append] at hw
  have f0 := hf 0 _ rfl; have f1 := hf 1 _ rfl; have f2 := hf 2 _ rfl; have f3 := hf 3 _ rfl; have f4 := hf 4 _ rfl; have f5 := hf 5 _ rfl; have f6 := hf 6 _ rfl; have f7 := hf 7 _ rfl
  simp only [List.getElem?_cons_zero, List.getElem?_cons_succ, X.ci, X.cb, X.cs1, X.cc, X.css] at f0 f1 f2 f3 f4 f5 f6 f7
  obtain ⟨k, e0, k1, k2⟩ := int_of X f0
  obtain ⟨op, e1⟩ := bool_of X f1
  obtain ⟨le, e2, m2, o2⟩ := con_of X _ _ _ f2 hw.2.2.1
  obtain ⟨ri, e3, m3, o3⟩ := con_of X _ _ _ f3 hw.2.2.2.1
  obtain ⟨rs, ad, cap, e4, hrow, hq, hlc, hcap⟩ := strs_of X f4 hw.2.2.2.2.1
  obtain ⟨ro, e5, n5⟩ := str_of X f5 hw.2.2.2.2.2.1
  obtain ⟨a, e6, n6⟩ := str_of X f6 hw.2.2.2.2.2.2.1
  obtain ⟨b, e7, n7⟩ := str_of X f7 hw.2.2.2.2.2.2.2.1
  rw [X.ca] at hl
  match cs, hl with
  | [c0, c1, c2, c3, c4, c5, c6, c7, c8, c9, c10, c11, c12, c13, c14, c15], _ =>
  simp only [List.drop_succ_cons, List.drop_zero, List.take_succ_cons, List.take_zero, List.cons.injEq, and_true, Con.cells] at e0 e1 e2 e3 e4 e5 e6 e7
  obtain ⟨rfl, rfl, rfl, rfl, rfl⟩ := e2
  obtain ⟨rfl, rfl, rfl, rfl, rfl⟩ := e3
  subst e0 e1 e4 e5 e6 e7
  exact ⟨⟨k, op, le, ri, ad, cap, rs, ro, a, b⟩, rfl, ⟨m2, m3, hrow⟩, ⟨k1, k2, o2, o3, hlc, hcap, hq, n5, n6, n7⟩⟩
theorem axs_of {n : Nat} {cs : List Value} {x : DataW H × List MemPlace} (h : DataW.trod enc P W 0 (fun _ => true) true n tAs cs = some x) (hw : wok (x.1.weights P tAs)) :
    ∃ (l : List Ax) (ad : Option Addr) (cap : Nat), cs = [.slice ad l.length cap] ∧ (axsF ad l).p (vw W) ∧ (∀ y ∈ l, y.ok) ∧ l.length ≤ cap ∧ cap ≤ 2199023255488 := by
  obtain ⟨l, ad, cap, e, hrow, hq, hlc, hcap⟩ := rows_of Ax.cells 16 Ax.cells_len (by decide) (fun a => a.mem (vw W) ∧ a.ok) X.axs X.ca (fun m' _ cs' y hy hwy => by
    obtain ⟨a, g1, g2, g3⟩ := ax_of X hy hwy
    exact ⟨a, g1, g2, g3⟩) h hw
  rw [X.ba] at hcap; simp only [reachBytes] at hcap
  exact ⟨l, ad, cap, e, ⟨hrow, fun y hy => (hq y hy).1⟩, fun y hy => (hq y hy).2, hlc, by omega⟩
/-- lengths as a machine bears them -/
structure Pc.big (p : Pc) : Prop where
  a : p.a.length ≤ 140737488351232
  b : p.b.length ≤ 140737488351232
  c : p.c.length ≤ 140737488351232
  r : p.r.length ≤ 140737488351232
  s : p.s.length ≤ 140737488351232
  t : p.t.length ≤ 140737488351232
theorem pc_of {n : Nat} {cs : List Value} {x : DataW H × List MemPlace} (h : DataW.trod enc P W 0 (fun _ => true) true n tP cs = some x) (hw : wok (x.1.weights P tP)) : ∃ p : Pc, cs = p.cells ∧ p.big := by
  obtain ⟨fs, hu, hL⟩ := X.p
  obtain ⟨xs, m, hn, hx, hl, hlen, hf, hwe⟩ := fields_of hu hL h
  rw [hwe] at hw
  match xs, hlen with
  | [x0, x1, x2, x3, x4, x5, x6, x7, x8, x9], _ =>
  simp only [List.map_cons, List.map_nil, DataW.weightsEach, wok_append] at hw
  have f0 := hf 0 _ rfl; have f1 := hf 1 _ rfl; have f2 := hf 2 _ rfl; have f3 := hf 3 _ rfl; have f4 := hf 4 _ rfl; have f5 := hf 5 _ rfl; have f6 := hf 6 _ rfl; have f7 := hf 7 _ rfl; have f8 := hf 8 _ rfl; have f9 := hf 9 _ rfl
  simp only [List.getElem?_cons_zero, List.getElem?_cons_succ, X.ci, X.cs1] at f0 f1 f2 f3 f4 f5 f6 f7 f8 f9
  obtain ⟨k, e0, _, _⟩ := int_of X f0
  obtain ⟨a, e1, n1⟩ := str_of X f1 hw.2.1
  obtain ⟨b, e2, n2⟩ := str_of X f2 hw.2.2.1
  obtain ⟨c, e3, n3⟩ := str_of X f3 hw.2.2.2.1
  obtain ⟨r, e4, n4⟩ := str_of X f4 hw.2.2.2.2.1
  obtain ⟨s, e5, n5⟩ := str_of X f5 hw.2.2.2.2.2.1
  obtain ⟨t, e6, n6⟩ := str_of X f6 hw.2.2.2.2.2.2.1
  obtain ⟨lo, e7, _, _⟩ := int_of X f7
  obtain ⟨hi, e8, _, _⟩ := int_of X f8
  obtain ⟨fr, e9, _, _⟩ := int_of X f9
  rw [X.cp] at hl
  match cs, hl with
  | [c0, c1, c2, c3, c4, c5, c6, c7, c8, c9], _ =>
  simp only [List.drop_succ_cons, List.drop_zero, List.take_succ_cons, List.take_zero, List.cons.injEq, and_true] at e0 e1 e2 e3 e4 e5 e6 e7 e8 e9
  subst e0 e1 e2 e3 e4 e5 e6 e7 e8 e9
  exact ⟨⟨k, a, b, c, r, s, t, lo, hi, fr⟩, rfl, n1, n2, n3, n4, n5, n6⟩
theorem pcs_of {n : Nat} {cs : List Value} {x : DataW H × List MemPlace} (h : DataW.trod enc P W 0 (fun _ => true) true n tPs cs = some x) (hw : wok (x.1.weights P tPs)) :
    ∃ (l : List Pc) (ad : Option Addr) (cap : Nat), cs = [.slice ad l.length cap] ∧ RowAt (vw W) ad (l.flatMap Pc.cells) ∧ (∀ y ∈ l, y.big) ∧ l.length ≤ cap ∧ cap ≤ 1099511627744 := by
  obtain ⟨l, ad, cap, e, hrow, hq, hlc, hcap⟩ := rows_of Pc.cells 10 Pc.cells_len (by decide) Pc.big X.ps X.cp (fun m' _ cs' y hy hwy => pc_of X hy hwy) h hw
  rw [X.bp] at hcap; simp only [reachBytes] at hcap
  exact ⟨l, ad, cap, e, hrow, hq, hlc, by omega⟩
end
end Go.Vs

/-
  Listed tables read as plain cells; the arguments read behind the call as before.
-/
namespace Go.Vs
open Go Go.Sx Go.ChangeShapes Go.WideShapes Go.ChangeAt Go.RowKit
section
variable {H : Type} {enc : TypeId × Value → H} {P : Program} {w : World}
mutual
def plainV {H : Type} : DataW H → List Value
  | .lit (.int k n) => [.int k n]
  | .lit (.bool b) => [.bool b]
  | .agg ps => plainVs ps
  | _ => []
def plainVs {H : Type} : List (DataW H) → List Value
  | [] => []
  | d :: r => plainV d ++ plainVs r
end
def plainT (P : Program) : Nat → TypeId → Bool
  | 0, _ => false
  | n + 1, t => match P.underlying t with
    | some .bool => true
    | some (.int _) => true
    | some (.struct fs) => fs.toList.all fun f => plainT P n f.type
    | some (.array _ e) => plainT P n e
    | _ => false
theorem plainVs_eq : ∀ l : List (DataW H), plainVs l = l.flatMap plainV
  | [] => by simp [plainVs]
  | d :: r => by simp only [plainVs, plainVs_eq r, List.flatMap_cons]
/-- pieces that lie one behind the other -/
theorem tile : ∀ (ls : List Nat) (cs : List Value) (g : List (List Value)), cs.length = ls.sum → g.length = ls.length → (∀ j n, ls[j]? = some n → some ((cs.drop (ls.take j).sum).take n) = g[j]?) → cs = g.flatten
  | [], cs, g, h, hg, _ => by
    simp only [List.sum_nil] at h
    have h1 := List.eq_nil_of_length_eq_zero h
    have h2 : g = [] := List.eq_nil_of_length_eq_zero hg
    simp [h1, h2]
  | n :: ls, cs, [], h, hg, hp => by simp at hg
  | n :: ls, cs, x :: g, h, hg, hp => by
    have h0 := hp 0 n rfl
    simp only [List.take_zero, List.sum_nil, List.drop_zero, List.getElem?_cons_zero, Option.some.injEq] at h0
    have ih := tile ls (cs.drop n) g (by rw [List.length_drop, h]; simp) (by simpa using hg) (fun j m hj => by
      have := hp (j + 1) m hj
      simp only [List.take_succ_cons, List.sum_cons, List.getElem?_cons_succ] at this
      rw [← this, List.drop_drop])
    rw [List.flatten_cons, ← ih, ← h0, List.take_append_drop]
theorem plain_of {T : TypeId → Prop} {held : Bool} (K : Kids P T) : ∀ (n m : Nat) (t : TypeId) (cs : List Value) (x : DataW H × List MemPlace), T t → plainT P m t = true → DataW.trod enc P w 0 (fun _ => true) held n t cs = some x → cs = plainV x.1 := by
  intro n
  induction n with
  | zero => intro m t cs x _ _ h; simp [DataW.trod] at h
  | succ n ih =>
    intro m t cs x hT hb h
    cases m with
    | zero => simp [plainT] at hb
    | succ m =>
    cases hu : P.underlying t with
    | none => simp [plainT, hu] at hb
    | some d =>
      cases d with
      | bool => obtain ⟨b, rfl, rfl⟩ := DataW.trod_bool hu h; simp [plainV]
      | int k => obtain ⟨b, rfl, rfl, _⟩ := DataW.trod_int hu h; simp [plainV]
      | struct fs =>
        obtain ⟨xs, m', hn, rfl, hl, hlen, hf⟩ := DataW.trod_struct hu h
        obtain rfl : m' = n := by omega
        obtain ⟨k1, k2, k3⟩ := K.struct hT hu
        simp only [plainT, hu] at hb
        simp only [plainV]
        rw [plainVs_eq, List.flatMap_def, List.map_map]
        refine tile (fs.toList.map fun f => P.cellsOf f.type) cs _ (by rw [hl, k2]) (by simp [hlen]) fun j q hq => ?_
        rw [List.getElem?_map, Option.map_eq_some_iff] at hq
        obtain ⟨f, hf', rfl⟩ := hq
        have h1 := hf j f (by simpa using hf')
        have h2 := k3 j f hf'
        have hj : j < xs.length := by rw [hlen]; have := (List.getElem?_eq_some_iff.1 hf').1; simpa using this
        rw [List.getElem?_eq_getElem hj] at h1
        have h3 := ih m f.type _ _ (k1 f (List.mem_of_getElem? hf')) (List.all_eq_true.1 hb f (List.mem_of_getElem? hf')) h1
        rw [List.getElem?_map, List.getElem?_eq_getElem hj, ← List.map_take, ← h2, h3]
        rfl
      | array len e =>
        obtain ⟨xs, m', hn, rfl, hl, hlen, hf⟩ := DataW.trod_array hu h
        obtain rfl : m' = n := by omega
        obtain ⟨k1, k2⟩ := K.array hT hu
        simp only [plainT, hu] at hb
        simp only [plainV]
        rw [plainVs_eq, List.flatMap_def, List.map_map]
        refine tile (List.replicate len (P.cellsOf e)) cs _ (by rw [hl, k2]; simp) (by simp [hlen]) fun j q hq => ?_
        rw [List.getElem?_replicate] at hq
        split at hq
        · rename_i hj
          simp only [Option.some.injEq] at hq
          subst hq
          have h1 := hf j hj
          have hjx : j < xs.length := by omega
          rw [List.getElem?_eq_getElem hjx] at h1
          have h3 := ih m e _ _ k1 hb h1
          rw [List.getElem?_map, List.getElem?_eq_getElem hjx, List.take_replicate, List.sum_replicate_nat, Nat.min_eq_left (by omega), h3]
          rfl
        · cases hq
      | _ => simp [plainT, hu] at hb
end
section
variable {H : Type} {enc : TypeId × Value → H} {P : Program} {W W' : World}
theorem TrodAll_carry : ∀ {ts : List TypeId} {vs : List Value} {ds : List (DataW H)} {ps : List MemPlace} {sp : Nat → Bool}, DataW.TrodAll enc P W 0 sp true ts vs ds ps → (∀ p ∈ ps, W.sameAt W' p) → DataW.TrodAll enc P W' 0 sp true ts vs ds ps
  | [], [], [], _, _, h, _ => h
  | _ :: _, _ :: _, _ :: _, _, _, ⟨p, q, ⟨n, h1⟩, h2, e⟩, hs => ⟨p, q, ⟨n, DataW.trod_carry n _ _ _ h1 (fun x hx => hs x (by rw [e]; exact List.mem_append_left _ hx))⟩, TrodAll_carry h2 (fun x hx => hs x (by rw [e]; exact List.mem_append_right _ hx)), e⟩
/-- true, and all is as it was -/
theorem law_post {T : TypeId → Prop} (K : Kids P T) (hz : ∀ t e, T t → P.underlying t = some (.slice e) → 0 < P.cellsOf e) {f : Func} {s : ChangeSpec} {args : Array Value} {ds : List (DataW H)} {before : List MemPlace} {tb : TypeId} (hts : ∀ t ∈ f.params.toList, T t) (hvars : s.vars = [])
    (hW : DataW.Whole enc P f.params.toList s.vars false W args.toList ds [] before) (hs : s.fn H (ds ++ []) = { results := [.lit (.bool true)], args := ds }) (hres : f.resultTypes = #[tb]) (hb : P.underlying tb = some .bool) {v' : Vw} (hto : (vw W).to [] v' []) :
    s.post enc P f false true false false W args (.bool true) v'.w := by
  have hW' := hW
  obtain ⟨p, q, hA, hV, hp, _, _⟩ := hW
  have hq : q = [] := by rw [hvars] at hV; exact hV
  subst hq
  simp only [List.append_nil] at hp
  subst hp
  have hblk : ∀ b, b < W.heap.size → v'.w.heap[b]? = W.heap[b]? := fun b hb => hto.block b hb (by simp)
  have hsame : ∀ x ∈ before, W.sameAt v'.w x := fun x hx => by
    have hlt := DataW.TrodAll.lt hA x hx
    cases x with
    | cell b off => exact World.cell?_of_block (hblk b hlt)
    | map b => exact hblk b hlt
  have hA' := TrodAll_carry hA hsame
  have hA'' := DataW.TrodAll.respare K hz (spare' := fun b => decide (b < W.heap.size)) hts hA' (fun x hx => by simpa using DataW.TrodAll.lt hA x hx)
  refine ⟨ds, [], before, [], before, [], hW', ?_, ?_, ?_, ⟨hto.os, hto.output, fun i hi => ?_⟩, fun h => by cases h⟩
  · rw [hs, hres]; exact trodAll_mk1 (shut_bool hb true)
  · rw [hs]; exact hA''
  · rw [hs, hvars]; rfl
  · rw [hblk i hi]
    have hsome : ∃ o, W.heap[i]? = some o := ⟨_, Array.getElem?_eq_getElem hi⟩
    obtain ⟨o, ho⟩ := hsome
    rw [ho]
    cases o <;> simp
section
variable {tI tB tS tSs tC tCs tA tAs tP tPs : TypeId} (X : Tys P tI tB tS tSs tC tCs tA tAs tP tPs) {base : Nat} {v : Value} {d : DataW H} {ps : List MemPlace}
include X
theorem arg_axs (hval : Value.okWide P W .any base tAs v) (h : DataW.Trod enc P W 0 (fun _ => true) true tAs v d ps) (hw : wok (d.weights P tAs)) :
    ∃ (l : List Ax) (ad : Option Addr) (cap : Nat), v = .slice ad l.length cap ∧ (axsF ad l).p (vw W) ∧ (∀ y ∈ l, y.ok) ∧ l.length ≤ cap ∧ cap ≤ 2199023255488 := by
  obtain ⟨a, len, cap, rfl⟩ := okWide_slice X.axs hval
  obtain ⟨n, hn⟩ := h
  obtain ⟨l, ad, cap', e, h1⟩ := axs_of X hn hw
  simp only [Value.cells, List.cons.injEq, and_true] at e
  exact ⟨l, ad, cap', e, h1⟩
theorem arg_pcs (hval : Value.okWide P W .any base tPs v) (h : DataW.Trod enc P W 0 (fun _ => true) true tPs v d ps) (hw : wok (d.weights P tPs)) :
    ∃ (l : List Pc) (ad : Option Addr) (cap : Nat), v = .slice ad l.length cap ∧ RowAt (vw W) ad (l.flatMap Pc.cells) ∧ (∀ y ∈ l, y.big) ∧ l.length ≤ cap ∧ cap ≤ 1099511627744 := by
  obtain ⟨a, len, cap, rfl⟩ := okWide_slice X.ps hval
  obtain ⟨n, hn⟩ := h
  obtain ⟨l, ad, cap', e, h1⟩ := pcs_of X hn hw
  simp only [Value.cells, List.cons.injEq, and_true] at e
  exact ⟨l, ad, cap', e, h1⟩
theorem arg_strs (hval : Value.okWide P W .any base tSs v) (h : DataW.Trod enc P W 0 (fun _ => true) true tSs v d ps) (hw : wok (d.weights P tSs)) :
    ∃ (l : List Str) (ad : Option Addr) (cap : Nat), v = .slice ad l.length cap ∧ RowAt (vw W) ad (l.flatMap strC) ∧ (∀ s ∈ l, s.length ≤ 140737488351232) ∧ l.length ≤ cap ∧ cap ≤ 8796093021952 := by
  obtain ⟨a, len, cap, rfl⟩ := okWide_slice X.ss hval
  obtain ⟨n, hn⟩ := h
  obtain ⟨l, ad, cap', e, h1⟩ := strs_of X hn hw
  simp only [Value.cells, List.cons.injEq, and_true] at e
  exact ⟨l, ad, cap', e, h1⟩
theorem arg_ax (hval : Value.okWide P W .any base tA v) (h : DataW.Trod enc P W 0 (fun _ => true) true tA v d ps) (hw : wok (d.weights P tA)) : ∃ a : Ax, v = a.val ∧ a.mem (vw W) ∧ a.ok := by
  obtain ⟨fs, hu, _⟩ := X.a
  unfold Value.okWide at hval
  rw [hu] at hval
  obtain ⟨cs, rfl, _⟩ := hval
  obtain ⟨n, hn⟩ := h
  obtain ⟨a, e, h1⟩ := ax_of X hn hw
  refine ⟨a, ?_, h1⟩
  simp only [Value.cells] at e
  rw [Ax.val, ← e]
theorem arg_con (hval : Value.okWide P W .any base tC v) (h : DataW.Trod enc P W 0 (fun _ => true) true tC v d ps) (hw : wok (d.weights P tC)) : ∃ c : Con, v = c.val ∧ c.mem (vw W) ∧ c.ok := by
  obtain ⟨fs, hu, _⟩ := X.c
  unfold Value.okWide at hval
  rw [hu] at hval
  obtain ⟨cs, rfl, _⟩ := hval
  obtain ⟨n, hn⟩ := h
  obtain ⟨c, e, h1⟩ := con_of X _ _ _ hn hw
  refine ⟨c, ?_, h1⟩
  simp only [Value.cells] at e
  rw [Con.val, ← e]
theorem arg_str (hval : Value.okWide P W .any base tS v) (h : DataW.Trod enc P W 0 (fun _ => true) true tS v d ps) (hw : wok (d.weights P tS)) : ∃ s : Str, v = str s ∧ s.length ≤ 140737488351232 := by
  obtain ⟨s0, rfl⟩ := okWide_string X.s hval
  obtain ⟨n, hn⟩ := h
  obtain ⟨s, e, h1⟩ := str_of X hn hw
  simp only [Value.cells, List.cons.injEq, and_true] at e
  exact ⟨s, e, h1⟩
theorem arg_int (hval : Value.okWide P W .any base tI v) (h : DataW.Trod enc P W 0 (fun _ => true) true tI v d ps) : ∃ k : Int, v = .int .i64 k ∧ -9223372036854775808 ≤ k ∧ k ≤ 9223372036854775807 := by
  obtain ⟨k, e, _, _, hw⟩ := open_int X.i hval h
  have := bounds_i64 hw
  exact ⟨k, e, this.1, this.2⟩
end
/-- a listed table that is plain -/
theorem table_of {T : TypeId → Prop} (K : Kids P T) {name : String} {d : DataW Unit} {laid : List (String × DataW Unit)} {W : World} (h : laidMet P laid W) (hm : (name, d) ∈ laid) {g : Nat} {t : TypeId} (hg : P.globalNamed name = some g) (ht' : (P.globals[g]?).map (·.type) = some t) (hT : T t) {m : Nat} (hb : plainT P m t = true) :
    ∃ T' fz, W.heap[g]? = some (.cells (plainV d).toArray T' fz) := by
  obtain ⟨ps, hl, _, _⟩ := h
  have key : ∀ (l : List (String × DataW Unit)) (ps : List MemPlace), DataW.LaidVars P W l ps → (name, d) ∈ l → ∃ g t cs n p, P.globalNamed name = some g ∧ (P.globals[g]?).map (·.type) = some t ∧ W.var? P name = some cs ∧ DataW.trod (fun _ => ()) P W 0 (fun _ => true) false n t cs.toList = some (d, p) := by
    intro l
    induction l with
    | nil => intro ps _ h; cases h
    | cons x r ih =>
      intro ps h hm
      obtain ⟨n', d'⟩ := x
      obtain ⟨g, t, cs, fuel, p, q, h1, h2, h3, h4, h5, _⟩ := h
      rcases List.mem_cons.1 hm with e | hm
      · cases e; exact ⟨g, t, cs, fuel, p, h1, h2, h3, h4⟩
      · exact ih q h5 hm
  obtain ⟨g', t', cs, n, p, h1, h2, h3, h4⟩ := key laid ps hl hm
  obtain rfl : g' = g := Option.some.inj (h1.symm.trans hg)
  obtain rfl : t' = t := Option.some.inj (h2.symm.trans ht')
  have e := plain_of K n m t' cs.toList _ hT hb h4
  simp only [World.var?, hg, Option.bind_some] at h3
  split at h3
  · rename_i c T' fz hc
    simp only [Option.some.injEq] at h3
    subst h3
    exact ⟨T', fz, by rw [hc, ← e]⟩
  · cases h3
end
end Go.Vs

/-
  My own contracts.
-/
namespace Go.Proofs.YtoafjmalfclpoaaGreatDoor
open Go Go.Sx Go.Proofs
set_option linter.unusedVariables false
attribute [local irreducible] Code.wp wpList wpAnyH

open Go.Vs Go.ChangeShapes Go.WideShapes Go.ChangeAt Go.RowKit
theorem own : ownKnob Tryz.prog.godebug = none := by kernel_rfl
def laidL : List (String × DataW Unit) := [("math/bits.deBruijn32tab", Rows.laid_math_bits_deBruijn32tab), ("math/bits.deBruijn64tab", Rows.laid_math_bits_deBruijn64tab), ("internal/strconv.uint64pow10", Rows.laid_internal_strconv_uint64pow10), ("unicode/utf8.acceptRanges", Rows.laid_unicode_utf8_acceptRanges), ("veilstone/terms.needs", Rows.laid_veilstone_terms_needs), ("veilstone/terms.uses", Rows.laid_veilstone_terms_uses), ("veilstone/normal.uses", Rows.laid_veilstone_normal_uses), ("unicode/utf8.first", Rows.laid_unicode_utf8_first)]
theorem kids : Kids Tryz.prog (· < Tryz.prog.types.size) := kids_rows (by kernel_rfl) (by kernel_rfl)
theorem full : ∀ t e, t < Tryz.prog.types.size → Tryz.prog.underlying t = some (.slice e) → 0 < Tryz.prog.cellsOf e := slices_full_of _ (by kernel_rfl)
theorem nTypes : Tryz.prog.types.size = 240 := by kernel_rfl
theorem tysX : Tys Tryz.prog 3 4 9 39 38 36 41 22 31 25 where
  i := Tryz.underlying3
  b := Tryz.underlying4
  s := Tryz.underlying9
  ss := Tryz.underlying39
  c := ⟨_, Tryz.underlying38, rfl⟩
  cs := Tryz.underlying36
  a := ⟨_, Tryz.underlying41, rfl⟩
  axs := Tryz.underlying22
  p := ⟨_, Tryz.underlying31, rfl⟩
  ps := Tryz.underlying25
  ci := by kernel_rfl
  cb := by kernel_rfl
  cs1 := by kernel_rfl
  css := by kernel_rfl
  cc := by kernel_rfl
  ccs := by kernel_rfl
  ca := by kernel_rfl
  cp := by kernel_rfl
  bs := by kernel_rfl
  bc := by kernel_rfl
  ba := by kernel_rfl
  bp := by kernel_rfl
theorem tab_terms_needs {W : World} (h : laidMetH Tryz.prog laidL W) : ∃ T fz, W.heap[2]? = some (.cells (plainV (H := Unit) Rows.laid_veilstone_terms_needs).toArray T fz) := by
  rw [MakeChecks.laidMetH_plain _ _ _ (by kernel_rfl)] at h
  exact table_of kids (name := "veilstone/terms.needs") h (by simp [laidL]) (g := 2) (t := 160) (by kernel_rfl) (by kernel_rfl) (by rw [nTypes]; decide) (m := 4) (by kernel_rfl)
theorem tab_terms_uses {W : World} (h : laidMetH Tryz.prog laidL W) : ∃ T fz, W.heap[0]? = some (.cells (plainV (H := Unit) Rows.laid_veilstone_terms_uses).toArray T fz) := by
  rw [MakeChecks.laidMetH_plain _ _ _ (by kernel_rfl)] at h
  exact table_of kids (name := "veilstone/terms.uses") h (by simp [laidL]) (g := 0) (t := 88) (by kernel_rfl) (by kernel_rfl) (by rw [nTypes]; decide) (m := 4) (by kernel_rfl)
theorem tab_normal_uses {W : World} (h : laidMetH Tryz.prog laidL W) : ∃ T fz, W.heap[1]? = some (.cells (plainV (H := Unit) Rows.laid_veilstone_normal_uses).toArray T fz) := by
  rw [MakeChecks.laidMetH_plain _ _ _ (by kernel_rfl)] at h
  exact table_of kids (name := "veilstone/normal.uses") h (by simp [laidL]) (g := 1) (t := 112) (by kernel_rfl) (by kernel_rfl) (by rw [nTypes]; decide) (m := 4) (by kernel_rfl)
theorem tab_strconv_uint64pow10 {W : World} (h : laidMetH Tryz.prog laidL W) : ∃ T fz, W.heap[4]? = some (.cells (plainV (H := Unit) Rows.laid_internal_strconv_uint64pow10).toArray T fz) := by
  rw [MakeChecks.laidMetH_plain _ _ _ (by kernel_rfl)] at h
  exact table_of kids (name := "internal/strconv.uint64pow10") h (by simp [laidL]) (g := 4) (t := 219) (by kernel_rfl) (by kernel_rfl) (by rw [nTypes]; decide) (m := 4) (by kernel_rfl)
theorem row_tab {W : World} {g : Nat} {l : List Value} {d : List Value} (h : ∃ T fz, W.heap[g]? = some (.cells l.toArray T fz)) (e : l = d) : RowAt (vw W) (some ⟨g, 0, none⟩) d := by
  obtain ⟨T, fz, h⟩ := h
  subst e
  exact .inr ⟨g, 0, _, T, fz, rfl, (Array.getElem?_eq_some_iff.1 h).1, h, fun j x hj => by rw [Nat.zero_add]; simpa using hj⟩
theorem tabs_of {W : World} (h : laidMetH Tryz.prog laidL W) : tabs.p (vw W) := by
  refine ⟨row_tab (tab_terms_needs h) (by kernel_rfl), row_tab (tab_terms_uses h) (by kernel_rfl), row_tab (tab_normal_uses h) (by kernel_rfl), ?_⟩
  obtain ⟨T, fz, h2⟩ := tab_strconv_uint64pow10 h
  refine ⟨(Array.getElem?_eq_some_iff.1 h2).1, T, fz, ?_⟩
  rw [show (Lib.pow10Tab.map fun z => Value.int .u64 z) = plainV (H := Unit) Rows.laid_internal_strconv_uint64pow10 by kernel_rfl]
  exact h2

end Go.Proofs.YtoafjmalfclpoaaGreatDoor
