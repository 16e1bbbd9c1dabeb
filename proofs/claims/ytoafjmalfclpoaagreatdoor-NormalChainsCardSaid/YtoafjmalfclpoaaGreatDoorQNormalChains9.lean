/-
  Part of the proof of the law NormalChains over this seat: the small logic, the data, the contracts of functions (no condition).
-/
import Derived.Test.YtoafjmalfclpoaaGreatDoorQNormalChains8
import Derived.Test.YtoafjmalfclpoaaGreatDoorQNormalChains7
import Derived.Test.YtoafjmalfclpoaaGreatDoorQNormalChains3
import Derived.ProofKit
import Derived.OpenShut
import Derived.ReadAgain
import Derived.Deep.Slices
import Derived.SevenTiedAt
import Derived.Stop.Joined
import Derived.Lay
import Derived.LaidMore
import Derived.Test.YtoafjmalfclpoaaGreatDoorRows
import Derived.Test.YtoafjmalfclpoaaGreatDoorQNormalChains2
set_option linter.unusedVariables false
set_option linter.unusedSimpArgs false
set_option linter.unusedSectionVars false
namespace Go.Proofs.YtoafjmalfclpoaaGreatDoor
open Go Go.Sx Go.Proofs
attribute [local irreducible] Code.wp wpList wpAnyH
open Go.Vs
theorem cp_ : gW_ Tryz.prog 41 [(0, 1), (1, 1), (2, 5), (7, 5), (12, 1), (13, 1), (14, 1), (15, 1)] [.int .i64 0, .bool false, .int .i64 0, str [], .int .i64 0, .int .i64 0, .slice none 0 0, .int .i64 0, str [], .int .i64 0, .int .i64 0, .slice none 0 0, .slice none 0 0, str [], str [], str []] := ⟨_, aT_, l_, fun w => by simp [L_, au_, z_, k_, bp_]⟩
theorem cU_ (s : Str) : Fn0 Tryz.prog 35 #[str s] (Con.val (Con.mk 3 s 0 0 none 0 [])) := by
  refine M_ Tryz.func35 rfl rfl Tryz.ntmps35 rfl fun v0 => ?_
  refine f_ (b_ (an_ aw_ rfl fun b1 => ?_))
  refine d_ (c_ rfl (f_ (b_ (a_ (g_ rfl) rfl (a_ (N_ cK_ rfl rfl) rfl (ah_ 0 k_ rfl rfl rfl rfl rfl rfl (d_ (c_ rfl (B_ ?_)))))))))
  exact kI_ () (fun a v h1 h2 => en_ (us := Con.cells (Con.mk 3 s 0 0 none 0 [])) 0 Tryz.results35 x_ k_ rfl rfl rfl a v h1 h2) S_ (fun v _ h => trivial)
theorem cV_ (r : Str) (c : Con) : Tri Tryz.prog 36 #[str r, Con.val c] [] [] (fun b : Nat => Con.val (Con.mk 6 r 0 0 (some ⟨b, 0, none⟩) 1 [c])) (fun _ => []) (fun b => [bQ_ (some ⟨b, 0, none⟩) (List.flatMap Con.cells [c])]) := by
  refine M_ Tryz.func36 rfl rfl Tryz.ntmps36 rfl fun v0 => ?_
  refine f_ (b_ (aI_ rfl rfl fun b1 => ?_))
  refine an_ aw_ rfl fun b2 => ?_
  refine d_ (c_ rfl (f_ (b_ (a_ (g_ rfl) rfl (a_ (G_ 1 x_ k_ rfl rfl rfl) rfl (X_ P_ k_ aw_ rfl rfl rfl rfl rfl rfl fun b3 => ?_))))))
  refine at_ (List.flatMap Con.cells [c]) h_ rfl ?_
  refine a_ (N_ cK_ rfl rfl) rfl (ah_ 0 k_ rfl rfl rfl rfl rfl rfl (d_ (c_ rfl (B_ ?_))))
  exact kI_ b3 (fun a v h1 h2 => en_ (us := Con.cells (Con.mk 6 r 0 0 (some ⟨b3, 0, none⟩) 1 [c])) 0 Tryz.results36 x_ k_ rfl rfl rfl a v h1 h2) S_ (fun v _ h => ⟨h.1, trivial⟩)
theorem ik_ (l : List Ax) (ad : Option Addr) (cap : Nat) (hcap : l.length ≤ cap ∧ cap ≤ 2199023255488) (hok : ∀ x ∈ l, x.ok) {p : List Pc} {er : Int} (e : aO_ l = (p, er)) :
    Tri Tryz.prog 12 #[.slice ad l.length cap] [] [ev_ ad l, bH_] (fun y : {y : Option Addr × Nat // p.length ≤ y.2 ∧ y.2 ≤ maxLen} => .tuple #[.slice y.1.1 p.length y.1.2, .int .i64 er]) (fun _ => []) (fun y => [bQ_ y.1.1 (p.flatMap Pc.cells)]) := by
  have h := kP_ l ad cap hcap hok
  generalize aO_ l = g at h e
  subst e
  exact h
theorem goal_e (x : Ax) (hok : x.ok) {p : List Pc} {fs : List Fc} {er : Int} (e : x.goalP = (p, fs, er)) :
    Tri Tryz.prog 19 #[x.val] [] [x.memF, bH_] (fun y : {y : Option Addr × Nat × Option Addr × Nat // p.length ≤ y.2.1 ∧ y.2.1 ≤ maxLen ∧ fs.length ≤ y.2.2.2 ∧ y.2.2.2 ≤ maxLen} => .tuple #[.slice y.1.1 p.length y.1.2.1, .slice y.1.2.2.1 fs.length y.1.2.2.2, .int .i64 er])
    (fun _ => []) (fun y => [bQ_ y.1.1 (p.flatMap Pc.cells), bQ_ y.1.2.2.1 (fs.flatMap Fc.cells)]) := by
  have h := goal_c x hok
  generalize x.goalP = g at h e
  subst e
  exact h
theorem jC_ (l : List Pc) (ad : Option Addr) (cap : Nat) (hl : l.length ≤ 17592186044414) (hsm : ∀ p ∈ l, p.sm) {er : Int} (e : gS_ l = er) : Tri Tryz.prog 13 #[.slice ad l.length cap] [] [bQ_ ad (List.flatMap Pc.cells l), tabN] (fun _ : Unit => .int .i64 er) (fun _ => []) (fun _ => []) := e ▸ lK_ l ad cap hl hsm
theorem kE_ (l : List Pc) (ad ae : Option Addr) (cap cpe : Nat) (hl : l.length ≤ 17592186044414) : Tri Tryz.prog 15 #[.slice ad l.length cap, .slice ae l.length cpe] [] [bQ_ ad (List.flatMap Pc.cells l), bQ_ ae (List.flatMap Pc.cells l)] (fun _ : Unit => .bool true) (fun _ => []) (fun _ => []) := by
  have h := same_c l l ad ae cap cpe hl hl
  rw [decide_eq_true (rfl : l = l)] at h
  exact h
theorem dz_ (x : Ax) (hok : x.ok) (want : List Pc) (ad : Option Addr) (cap : Nat) (hw : want.length ≤ 100) (he : aO_ [x] = (want, 0)) : Tri Tryz.prog 37 #[Ax.val x, .slice ad (List.length want) cap] [] [Ax.memF x, bQ_ ad (List.flatMap Pc.cells want), bH_] (fun _ : Unit => .bool true) (fun _ => []) (fun _ => []) := by
  refine M_ Tryz.func37 rfl rfl Tryz.ntmps37 rfl fun v0 => ?_
  refine f_ (b_ (aI_ rfl rfl fun b1 => ?_))
  refine a_ (e_ rfl) rfl (d_ (c_ rfl (f_ (b_ (a_ (G_ 0 bR_ ae_ rfl rfl rfl) rfl (X_ bm_ ae_ aT_ rfl rfl rfl rfl rfl rfl fun b2 => ?_))))))
  refine at_ (List.flatMap Ax.cells [x]) h_ rfl ?_
  refine A_ (ik_ [x] (some ⟨b2, 0, none⟩) 1 ⟨by simp, by decide⟩ (fun y hy => by simp only [List.mem_cons, List.not_mem_nil, or_false] at hy; subst hy; exact hok) he) rfl S_ (fun v _ h => by exact ⟨⟨h.1, fun y hy => by simp only [List.mem_cons, List.not_mem_nil, or_false] at hy; rcases hy with rfl; exact h.2.1⟩, h.2.2.2.1, trivial⟩) rfl fun ⟨⟨adp, cpp⟩, hap⟩ => ?_
  dsimp only
  refine a_ (g_ rfl) rfl (a_ (aD_ rfl rfl) rfl (a_ (aD_ rfl rfl) rfl (a_ (e_ rfl) rfl (a_ (e_ rfl) rfl (d_ (c_ rfl (f_ (b_ (a_ (g_ rfl) rfl ?_)))))))))
  refine a_ (bB_ (ai_ rfl rfl) (show _ = Value.bool true from congrArg Value.bool (by decide))) rfl (a_ (g_ rfl) rfl (n_ rfl rfl (a_ (g_ rfl) rfl (n_ rfl rfl (a_ (g_ rfl) rfl (n_ rfl rfl (A_ (kE_ want adp ad cpp cap (by omega)) rfl S_ (fun v _ h => by exact ⟨h.1, h.2.2.2.1, trivial⟩) rfl fun _ => ?_)))))))
  refine a_ (K_ rfl rfl) rfl (a_ (e_ rfl) rfl (d_ (c_ rfl (B_ ?_))))
  exact aj_ Tryz.results37 () rfl (.refl _) (fun _ _ _ => trivial)
theorem kU_ (n0 n1 : Nat) : ((Ax.mk 1 false (Con.mk 5 [] 0 0 (some ⟨n0, 0, none⟩) 2 [(Con.mk 3 [65] 0 0 none 0 []), (Con.mk 3 [66] 0 0 none 0 [])]) (Con.mk 6 [114] 0 0 (some ⟨n1, 0, none⟩) 1 [(Con.mk 3 [67] 0 0 none 0 [])]) none 0 [] [] [] []) : Ax).ok := by constructor <;> simp [Con.ok, Con.ok.oks]
theorem flat1 (n0 n1 : Nat) : aO_ [(Ax.mk 1 false (Con.mk 5 [] 0 0 (some ⟨n0, 0, none⟩) 2 [(Con.mk 3 [65] 0 0 none 0 []), (Con.mk 3 [66] 0 0 none 0 [])]) (Con.mk 6 [114] 0 0 (some ⟨n1, 0, none⟩) 1 [(Con.mk 3 [67] 0 0 none 0 [])]) none 0 [] [] [] [])] = ([(Pc.mk 2 [65] [66] [60, 65, 32, 97, 110, 100, 32, 66, 62] [] [] [] 0 0 0), (Pc.mk 3 [60, 115, 111, 109, 101, 32, 114, 32, 67, 62] [] [67] [114] [] [] 0 0 0), (Pc.mk 1 [60, 65, 32, 97, 110, 100, 32, 66, 62] [] [60, 115, 111, 109, 101, 32, 114, 32, 67, 62] [] [] [] 0 0 0)], 0) := by kernel_rfl
theorem kT_ : ((Ax.mk 3 false (Con.mk 3 [65] 0 0 none 0 []) (Con.mk 3 [65] 0 0 none 0 []) none 0 [] [] [] []) : Ax).ok := by constructor <;> simp [Con.ok, Con.ok.oks]
theorem flat2 : aO_ [(Ax.mk 3 false (Con.mk 3 [65] 0 0 none 0 []) (Con.mk 3 [65] 0 0 none 0 []) none 0 [] [] [] [])] = ([(Pc.mk 2 [65] [65] [33] [] [] [] 0 0 0)], 0) := by kernel_rfl
theorem iv_ : ((Ax.mk 1 false (Con.mk 7 [97, 103, 101] 0 17 none 0 []) (Con.mk 3 [77, 105, 110, 111, 114] 0 0 none 0 []) none 0 [] [] [] []) : Ax).ok := by constructor <;> simp [Con.ok, Con.ok.oks]
theorem lR_ : aO_ [(Ax.mk 1 false (Con.mk 7 [97, 103, 101] 0 17 none 0 []) (Con.mk 3 [77, 105, 110, 111, 114] 0 0 none 0 []) none 0 [] [] [] [])] = ([(Pc.mk 9 [] [] [60, 97, 103, 101, 32, 105, 110, 32, 48, 32, 116, 111, 32, 49, 55, 62] [97, 103, 101] [] [] 0 17 0), (Pc.mk 1 [60, 97, 103, 101, 32, 105, 110, 32, 48, 32, 116, 111, 32, 49, 55, 62] [] [77, 105, 110, 111, 114] [] [] [] 0 0 0)], 0) := by
  have h0 : Lib.itoa 0 = [48] := by simp [Lib.itoa, Lib.decDigits]
  have h17 : Lib.itoa 17 = [49, 55] := by simp [Lib.itoa, Lib.decDigits]
  have hk : Con.check (Con.mk 7 [97, 103, 101] 0 17 none 0 []) = 0 := by kernel_rfl
  have ht : Con.text (Con.mk 7 [97, 103, 101] 0 17 none 0 []) = [97, 103, 101, 32, 105, 110, 32, 48, 32, 116, 111, 32, 49, 55] := by
    rw [Con.text_eq]
    simp [Con.kind, Con.name, Con.lo, Con.hi, h0, h17, Lib.join, List.intercalate]
  have ha : Con.atom (Con.mk 7 [97, 103, 101] 0 17 none 0 []) = [60, 97, 103, 101, 32, 105, 110, 32, 48, 32, 116, 111, 32, 49, 55, 62] := by
    unfold Con.atom Con.textN
    rw [hk, ht]
    rfl
  have hb : cl_ [(Ax.mk 1 false (Con.mk 7 [97, 103, 101] 0 17 none 0 []) (Con.mk 3 [77, 105, 110, 111, 114] 0 0 none 0 []) none 0 [] [] [] [])] = 0 := by kernel_rfl
  have hp : Ax.pieces 0 (Ax.mk 1 false (Con.mk 7 [97, 103, 101] 0 17 none 0 []) (Con.mk 3 [77, 105, 110, 111, 114] 0 0 none 0 []) none 0 [] [] [] []) = [(Pc.mk 9 [] [] [60, 97, 103, 101, 32, 105, 110, 32, 48, 32, 116, 111, 32, 49, 55, 62] [97, 103, 101] [] [] 0 17 0), (Pc.mk 1 [60, 97, 103, 101, 32, 105, 110, 32, 48, 32, 116, 111, 32, 49, 55, 62] [] [77, 105, 110, 111, 114] [] [] [] 0 0 0)] := by
    unfold Ax.pieces
    simp only [if_true]
    rw [Con.leftP_eq, Con.rightP_eq]
    simp only [Con.kind, ha, Con.name, Con.lo, Con.hi]
    rfl
  unfold aO_
  rw [if_neg (by decide), hb]
  simp only [ef_, List.nil_append]
  rw [show ((0 : Nat) : Int) = 0 from rfl, hp]
  rfl
theorem kS_ (n0 : Nat) : ((Ax.mk 8 false (Con.mk 0 [] 0 0 none 0 []) (Con.mk 6 [114] 0 0 (some ⟨n0, 0, none⟩) 1 [(Con.mk 1 [] 0 0 none 0 [])]) none 0 [] [] [97] []) : Ax).ok := by constructor <;> simp [Con.ok, Con.ok.oks]
theorem flat4 (n0 : Nat) : aO_ [(Ax.mk 8 false (Con.mk 0 [] 0 0 none 0 []) (Con.mk 6 [114] 0 0 (some ⟨n0, 0, none⟩) 1 [(Con.mk 1 [] 0 0 none 0 [])]) none 0 [] [] [97] [])] = ([(Pc.mk 3 [60, 115, 111, 109, 101, 32, 114, 32, 101, 118, 101, 114, 121, 116, 104, 105, 110, 103, 62] [] [42] [114] [] [] 0 0 0), (Pc.mk 1 [123, 97, 125] [] [60, 115, 111, 109, 101, 32, 114, 32, 101, 118, 101, 114, 121, 116, 104, 105, 110, 103, 62] [] [] [] 0 0 0)], 0) := by kernel_rfl
theorem kR_ (n0 : Nat) : ((Ax.mk 6 false (Con.mk 0 [] 0 0 none 0 []) (Con.mk 0 [] 0 0 none 0 []) (some ⟨n0, 0, none⟩) 2 [[114], [114]] [114] [] []) : Ax).ok := by constructor <;> simp [Con.ok, Con.ok.oks]
theorem flat5 (n0 : Nat) : aO_ [(Ax.mk 6 false (Con.mk 0 [] 0 0 none 0 []) (Con.mk 0 [] 0 0 none 0 []) (some ⟨n0, 0, none⟩) 2 [[114], [114]] [114] [] [])] = ([(Pc.mk 6 [] [] [] [114] [114] [114] 0 0 0)], 0) := by kernel_rfl
theorem lE_ (n0 : Nat) : ((Ax.mk 1 false (Con.mk 3 [65] 0 0 none 0 []) (Con.mk 6 [114] 0 0 (some ⟨n0, 0, none⟩) 1 [(Con.mk 3 [66] 0 0 none 0 [])]) none 0 [] [] [] []) : Ax).ok := by constructor <;> simp [Con.ok, Con.ok.oks]
theorem goalS (n0 : Nat) : Ax.goalP (Ax.mk 1 false (Con.mk 3 [65] 0 0 none 0 []) (Con.mk 6 [114] 0 0 (some ⟨n0, 0, none⟩) 1 [(Con.mk 3 [66] 0 0 none 0 [])]) none 0 [] [] [] []) = ([(Pc.mk 1 [65] [] [42] [] [] [] 0 0 (-1)), (Pc.mk 1 [60, 115, 111, 109, 101, 32, 114, 32, 66, 62] [] [42] [] [] [] 0 0 (-1)), (Pc.mk 4 [66] [] [60, 115, 111, 109, 101, 32, 114, 32, 66, 62] [114] [] [] 0 0 (-1))], [(Fc.mk 1 [65] [60, 115, 111, 109, 101, 32, 114, 32, 66, 62] [] 0 0)], 0) := by kernel_rfl
theorem sane_c : Tri Tryz.prog 10 #[] [] [bH_] (fun _ : Unit => .bool true) (fun _ => []) (fun _ => []) := by
  refine M_ Tryz.func10 rfl rfl Tryz.ntmps10 rfl fun v0 => ?_
  refine f_ (b_ (a_ (e_ rfl) rfl (d_ (c_ rfl (f_ (b_ (A_ (cU_ [65]) rfl S_ (fun _ _ _ => by exact trivial) rfl fun _ => ?_)))))))
  refine an_ aw_ rfl fun b1 => ?_
  refine ah_ 0 k_ rfl rfl rfl rfl rfl rfl (d_ (c_ rfl (f_ (b_ (a_ (N_ cK_ rfl rfl) rfl (an_ aw_ rfl fun b2 => ?_))))))
  refine ah_ 0 k_ rfl rfl rfl rfl rfl rfl (d_ (c_ rfl (f_ ?_)))
  refine hu_ (ι := Nat × Nat × Nat) (fun z => [(0, .bool false), (1, zp_ b1 0), (2, zp_ b2 0), (3, zp_ z.2.2 0)]) (fun z => ((z.2.2, .cells #[.int .i64 1, .bool false, .int .i64 5, str [], .int .i64 0, .int .i64 0, .slice (some ⟨z.1, 0, none⟩) (List.length [(Con.mk 3 [65] 0 0 none 0 []), (Con.mk 3 [66] 0 0 none 0 [])]) 2, .int .i64 6, str [114], .int .i64 0, .int .i64 0, .slice (some ⟨z.2.1, 0, none⟩) (List.length [(Con.mk 3 [67] 0 0 none 0 [])]) 1, .slice none 0 0, str [], str [], str []] 41 (0, 0)) :: ((b2, .cells #[.int .i64 7, str [97, 103, 101], .int .i64 0, .int .i64 17, .slice none 0 0] 38 (0, 0)) :: ((b1, .cells #[.int .i64 3, str [65], .int .i64 0, .int .i64 0, .slice none 0 0] 38 (0, 0)) :: [])))) (fun z => [bQ_ (some ⟨z.1, 0, none⟩) (List.flatMap Con.cells [(Con.mk 3 [65] 0 0 none 0 []), (Con.mk 3 [66] 0 0 none 0 [])]), bQ_ (some ⟨z.2.1, 0, none⟩) (List.flatMap Con.cells [(Con.mk 3 [67] 0 0 none 0 [])]), bH_]) ?_ ?_
  · skip
    refine br_ (by kernel_rfl) ?_
    refine ab_ 8 [0] (by kernel_rfl) (fun _ a b => ⟨a, b⟩) (s_ rfl (G_ 1 x_ k_ rfl rfl rfl) rfl (aa_ ?_))
    refine cg_ 1 7 rfl rfl (by kernel_rfl) ?_ ?_
    · skip
      refine A_ (cU_ [66]) rfl S_ (fun _ _ _ => by exact trivial) rfl fun _ => ?_
      refine d_ (o_ rfl (u_ (fun _ a b => ⟨a, b⟩) (fM_ [2, 4, 7] (by kernel_rfl) (by simp) ?_)))
      intro i hi; simp only [List.mem_cons, List.not_mem_nil, or_false] at hi; rcases hi with rfl | rfl | rfl
      · refine ⟨_, rfl, ?_⟩
        refine X_ P_ k_ aw_ rfl rfl rfl rfl rfl rfl fun b3 => ?_
        refine at_ (List.flatMap Con.cells [(Con.mk 3 [65] 0 0 none 0 []), (Con.mk 3 [66] 0 0 none 0 [])]) h_ rfl ?_
        refine d_ (o_ rfl (u_ (fun _ a b => ⟨a, b.2⟩) (ab_ 5 [3] (by kernel_rfl) (fun _ a b => ⟨a, b.2⟩) (s_ rfl (N_ cK_ rfl rfl) rfl (aa_ ?_)))))
        refine cg_ 4 7 rfl rfl (by kernel_rfl) ?_ ?_
        · skip
          refine A_ (cU_ [67]) rfl S_ (fun _ _ _ => by exact trivial) rfl fun _ => ?_
          refine d_ (o_ rfl (u_ (fun _ a b => ⟨a, b.2⟩) ?_))
          refine cg_ 5 7 rfl rfl (by kernel_rfl) ?_ ?_
          · skip
            refine A_ (cV_ [114] (Con.mk 3 [67] 0 0 none 0 [])) rfl S_ (fun _ _ _ => by exact trivial) rfl fun b4 => ?_
            refine d_ (o_ rfl (u_ (fun _ a b => ⟨a, b.2.2⟩) (ab_ 2 [6] (by kernel_rfl) (fun _ a b => ⟨a, b.2.2⟩) (s_ rfl (N_ cp_ rfl rfl) rfl (aa_ (H_ 7 rfl (by kernel_rfl) (an_ aT_ rfl fun b5 => ?_)))))))
            refine d_ (o_ rfl (u_ (fun _ a b => ⟨a.tail, b.2.2⟩) (H_ 8 rfl (by kernel_rfl) (ah_ 0 ae_ rfl rfl rfl rfl rfl rfl (d_ (o_ rfl (u_ (fun _ a b => ⟨a.tail, b.2.2⟩) (ad_ (by kernel_rfl) (aL_ rfl ?_)))))))))
            exact bG_ (b3, b4, b5) ⟨rfl, rfl, rfl, rfl, trivial⟩ (j_ h_ (j_ h_ h_)) (fun v _ h => by exact ⟨h.2.1, h.1, h.2.2.1, trivial⟩)
          · skip
            refine an_ aT_ rfl fun b6 => ?_
            refine d_ (o_ rfl (u_ (fun _ a b => ⟨a.tail, b.2⟩) (H_ 5 rfl (by kernel_rfl) (A_ (cV_ [114] (Con.mk 3 [67] 0 0 none 0 [])) rfl S_ (fun _ _ _ => by exact trivial) rfl fun b7 => ?_))))
            refine d_ (o_ rfl (u_ (fun _ a b => ⟨a.tail, b.2.2⟩) (ab_ 1 [6] (by kernel_rfl) (fun _ a b => ⟨a.tail, b.2.2⟩) (s_ rfl (N_ cp_ rfl rfl) rfl (aa_ (H_ 8 rfl (by kernel_rfl) (ah_ 0 ae_ rfl rfl rfl rfl rfl rfl (d_ (o_ rfl ?_)))))))))
            refine u_ (fun _ a b => ⟨a.tail, b.2.2⟩) (ad_ (by kernel_rfl) (aL_ rfl ?_))
            exact bG_ (b3, b7, b6) ⟨rfl, rfl, rfl, rfl, trivial⟩ (j_ h_ (j_ h_ h_)) (fun v _ h => by exact ⟨h.2.1, h.1, h.2.2.1, trivial⟩)
        · skip
          refine an_ aT_ rfl fun b8 => ?_
          refine d_ (o_ rfl (u_ (fun _ a b => ⟨a.tail, b.2⟩) (H_ 4 rfl (by kernel_rfl) (A_ (cU_ [67]) rfl S_ (fun _ _ _ => by exact trivial) rfl fun _ => ?_))))
          refine d_ (o_ rfl (u_ (fun _ a b => ⟨a.tail, b.2⟩) (H_ 5 rfl (by kernel_rfl) (A_ (cV_ [114] (Con.mk 3 [67] 0 0 none 0 [])) rfl S_ (fun _ _ _ => by exact trivial) rfl fun b9 => ?_))))
          refine d_ (o_ rfl (u_ (fun _ a b => ⟨a.tail, b.2.2⟩) (ab_ 1 [6] (by kernel_rfl) (fun _ a b => ⟨a.tail, b.2.2⟩) (s_ rfl (N_ cp_ rfl rfl) rfl (aa_ (H_ 8 rfl (by kernel_rfl) (ah_ 0 ae_ rfl rfl rfl rfl rfl rfl (d_ (o_ rfl ?_)))))))))
          refine u_ (fun _ a b => ⟨a.tail, b.2.2⟩) (ad_ (by kernel_rfl) (aL_ rfl ?_))
          exact bG_ (b3, b9, b8) ⟨rfl, rfl, rfl, rfl, trivial⟩ (j_ h_ (j_ h_ h_)) (fun v _ h => by exact ⟨h.2.1, h.1, h.2.2.1, trivial⟩)
      · refine ⟨_, rfl, ?_⟩
        refine A_ (cU_ [67]) rfl S_ (fun _ _ _ => by exact trivial) rfl fun _ => ?_
        refine d_ (o_ rfl (u_ (fun _ a b => ⟨a, b⟩) (fM_ [2, 5, 7] (by kernel_rfl) (by simp) ?_)))
        intro i hi; simp only [List.mem_cons, List.not_mem_nil, or_false] at hi; rcases hi with rfl | rfl | rfl
        · refine ⟨_, rfl, ?_⟩
          refine X_ P_ k_ aw_ rfl rfl rfl rfl rfl rfl fun b10 => ?_
          refine at_ (List.flatMap Con.cells [(Con.mk 3 [65] 0 0 none 0 []), (Con.mk 3 [66] 0 0 none 0 [])]) h_ rfl ?_
          refine d_ (o_ rfl (u_ (fun _ a b => ⟨a, b.2⟩) (ab_ 4 [3] (by kernel_rfl) (fun _ a b => ⟨a, b.2⟩) (s_ rfl (N_ cK_ rfl rfl) rfl (aa_ ?_)))))
          refine cg_ 5 7 rfl rfl (by kernel_rfl) ?_ ?_
          · skip
            refine A_ (cV_ [114] (Con.mk 3 [67] 0 0 none 0 [])) rfl S_ (fun _ _ _ => by exact trivial) rfl fun b11 => ?_
            refine d_ (o_ rfl (u_ (fun _ a b => ⟨a, b.2.2⟩) (ab_ 2 [6] (by kernel_rfl) (fun _ a b => ⟨a, b.2.2⟩) (s_ rfl (N_ cp_ rfl rfl) rfl (aa_ (H_ 7 rfl (by kernel_rfl) (an_ aT_ rfl fun b12 => ?_)))))))
            refine d_ (o_ rfl (u_ (fun _ a b => ⟨a.tail, b.2.2⟩) (H_ 8 rfl (by kernel_rfl) (ah_ 0 ae_ rfl rfl rfl rfl rfl rfl (d_ (o_ rfl (u_ (fun _ a b => ⟨a.tail, b.2.2⟩) (ad_ (by kernel_rfl) (aL_ rfl ?_)))))))))
            exact bG_ (b10, b11, b12) ⟨rfl, rfl, rfl, rfl, trivial⟩ (j_ h_ (j_ h_ h_)) (fun v _ h => by exact ⟨h.2.1, h.1, h.2.2.1, trivial⟩)
          · skip
            refine an_ aT_ rfl fun b13 => ?_
            refine d_ (o_ rfl (u_ (fun _ a b => ⟨a.tail, b.2⟩) (H_ 5 rfl (by kernel_rfl) (A_ (cV_ [114] (Con.mk 3 [67] 0 0 none 0 [])) rfl S_ (fun _ _ _ => by exact trivial) rfl fun b14 => ?_))))
            refine d_ (o_ rfl (u_ (fun _ a b => ⟨a.tail, b.2.2⟩) (ab_ 1 [6] (by kernel_rfl) (fun _ a b => ⟨a.tail, b.2.2⟩) (s_ rfl (N_ cp_ rfl rfl) rfl (aa_ (H_ 8 rfl (by kernel_rfl) (ah_ 0 ae_ rfl rfl rfl rfl rfl rfl (d_ (o_ rfl ?_)))))))))
            refine u_ (fun _ a b => ⟨a.tail, b.2.2⟩) (ad_ (by kernel_rfl) (aL_ rfl ?_))
            exact bG_ (b10, b14, b13) ⟨rfl, rfl, rfl, rfl, trivial⟩ (j_ h_ (j_ h_ h_)) (fun v _ h => by exact ⟨h.2.1, h.1, h.2.2.1, trivial⟩)
        · refine ⟨_, rfl, ?_⟩
          refine A_ (cV_ [114] (Con.mk 3 [67] 0 0 none 0 [])) rfl S_ (fun _ _ _ => by exact trivial) rfl fun b15 => ?_
          refine d_ (o_ rfl (u_ (fun _ a b => ⟨a, b.2⟩) ?_))
          refine cg_ 2 7 rfl rfl (by kernel_rfl) ?_ ?_
          · skip
            refine X_ P_ k_ aw_ rfl rfl rfl rfl rfl rfl fun b16 => ?_
            refine at_ (List.flatMap Con.cells [(Con.mk 3 [65] 0 0 none 0 []), (Con.mk 3 [66] 0 0 none 0 [])]) h_ rfl ?_
            refine d_ (o_ rfl (u_ (fun _ a b => ⟨a, b.2.2⟩) (ab_ 2 [3, 6] (by kernel_rfl) (fun _ a b => ⟨a, b.2.2⟩) (s_ rfl (N_ cK_ rfl rfl) rfl (s_ rfl (N_ cp_ rfl rfl) rfl (aa_ (H_ 7 rfl (by kernel_rfl) (an_ aT_ rfl fun b17 => ?_))))))))
            refine d_ (o_ rfl (u_ (fun _ a b => ⟨a.tail, b.2.2⟩) (H_ 8 rfl (by kernel_rfl) (ah_ 0 ae_ rfl rfl rfl rfl rfl rfl (d_ (o_ rfl (u_ (fun _ a b => ⟨a.tail, b.2.2⟩) (ad_ (by kernel_rfl) (aL_ rfl ?_)))))))))
            exact bG_ (b16, b15, b17) ⟨rfl, rfl, rfl, rfl, trivial⟩ (j_ h_ (j_ h_ h_)) (fun v _ h => by exact ⟨h.1, h.2.1, h.2.2.1, trivial⟩)
          · skip
            refine an_ aT_ rfl fun b18 => ?_
            refine d_ (o_ rfl (u_ (fun _ a b => ⟨a.tail, b.2⟩) (H_ 2 rfl (by kernel_rfl) (X_ P_ k_ aw_ rfl rfl rfl rfl rfl rfl fun b19 => ?_))))
            refine at_ (List.flatMap Con.cells [(Con.mk 3 [65] 0 0 none 0 []), (Con.mk 3 [66] 0 0 none 0 [])]) h_ rfl ?_
            refine d_ (o_ rfl (u_ (fun _ a b => ⟨a.tail, b.2.2⟩) (ab_ 1 [3, 6] (by kernel_rfl) (fun _ a b => ⟨a.tail, b.2.2⟩) (s_ rfl (N_ cK_ rfl rfl) rfl (s_ rfl (N_ cp_ rfl rfl) rfl (aa_ (H_ 8 rfl (by kernel_rfl) (ah_ 0 ae_ rfl rfl rfl rfl rfl rfl (d_ ?_)))))))))
            refine o_ rfl (u_ (fun _ a b => ⟨a.tail, b.2.2⟩) (ad_ (by kernel_rfl) (aL_ rfl ?_)))
            exact bG_ (b19, b15, b18) ⟨rfl, rfl, rfl, rfl, trivial⟩ (j_ h_ (j_ h_ h_)) (fun v _ h => by exact ⟨h.1, h.2.1, h.2.2.1, trivial⟩)
        · refine ⟨_, rfl, ?_⟩
          refine an_ aT_ rfl fun b20 => ?_
          refine d_ (o_ rfl (u_ (fun _ a b => ⟨a.tail, b⟩) ?_))
          refine cg_ 2 5 rfl rfl (by kernel_rfl) ?_ ?_
          · skip
            refine X_ P_ k_ aw_ rfl rfl rfl rfl rfl rfl fun b21 => ?_
            refine at_ (List.flatMap Con.cells [(Con.mk 3 [65] 0 0 none 0 []), (Con.mk 3 [66] 0 0 none 0 [])]) h_ rfl ?_
            refine d_ (o_ rfl (u_ (fun _ a b => ⟨a.tail, b.2⟩) (ab_ 3 [3] (by kernel_rfl) (fun _ a b => ⟨a.tail, b.2⟩) (s_ rfl (N_ cK_ rfl rfl) rfl (aa_ (H_ 5 rfl (by kernel_rfl) (A_ (cV_ [114] (Con.mk 3 [67] 0 0 none 0 [])) rfl S_ (fun _ _ _ => by exact trivial) rfl fun b22 => ?_)))))))
            refine d_ (o_ rfl (u_ (fun _ a b => ⟨a.tail, b.2.2⟩) (ab_ 1 [6] (by kernel_rfl) (fun _ a b => ⟨a.tail, b.2.2⟩) (s_ rfl (N_ cp_ rfl rfl) rfl (aa_ (H_ 8 rfl (by kernel_rfl) (ah_ 0 ae_ rfl rfl rfl rfl rfl rfl (d_ (o_ rfl ?_)))))))))
            refine u_ (fun _ a b => ⟨a.tail, b.2.2⟩) (ad_ (by kernel_rfl) (aL_ rfl ?_))
            exact bG_ (b21, b22, b20) ⟨rfl, rfl, rfl, rfl, trivial⟩ (j_ h_ (j_ h_ h_)) (fun v _ h => by exact ⟨h.2.1, h.1, h.2.2.1, trivial⟩)
          · skip
            refine A_ (cV_ [114] (Con.mk 3 [67] 0 0 none 0 [])) rfl S_ (fun _ _ _ => by exact trivial) rfl fun b23 => ?_
            refine d_ (o_ rfl (u_ (fun _ a b => ⟨a.tail, b.2⟩) (H_ 2 rfl (by kernel_rfl) (X_ P_ k_ aw_ rfl rfl rfl rfl rfl rfl fun b24 => ?_))))
            refine at_ (List.flatMap Con.cells [(Con.mk 3 [65] 0 0 none 0 []), (Con.mk 3 [66] 0 0 none 0 [])]) h_ rfl ?_
            refine d_ (o_ rfl (u_ (fun _ a b => ⟨a.tail, b.2.2⟩) (ab_ 1 [3, 6] (by kernel_rfl) (fun _ a b => ⟨a.tail, b.2.2⟩) (s_ rfl (N_ cK_ rfl rfl) rfl (s_ rfl (N_ cp_ rfl rfl) rfl (aa_ (H_ 8 rfl (by kernel_rfl) (ah_ 0 ae_ rfl rfl rfl rfl rfl rfl (d_ ?_)))))))))
            refine o_ rfl (u_ (fun _ a b => ⟨a.tail, b.2.2⟩) (ad_ (by kernel_rfl) (aL_ rfl ?_)))
            exact bG_ (b24, b23, b20) ⟨rfl, rfl, rfl, rfl, trivial⟩ (j_ h_ (j_ h_ h_)) (fun v _ h => by exact ⟨h.1, h.2.1, h.2.2.1, trivial⟩)
      · refine ⟨_, rfl, ?_⟩
        refine an_ aT_ rfl fun b25 => ?_
        refine d_ (o_ rfl (u_ (fun _ a b => ⟨a.tail, b⟩) ?_))
        refine cg_ 2 4 rfl rfl (by kernel_rfl) ?_ ?_
        · skip
          refine X_ P_ k_ aw_ rfl rfl rfl rfl rfl rfl fun b26 => ?_
          refine at_ (List.flatMap Con.cells [(Con.mk 3 [65] 0 0 none 0 []), (Con.mk 3 [66] 0 0 none 0 [])]) h_ rfl ?_
          refine d_ (o_ rfl (u_ (fun _ a b => ⟨a.tail, b.2⟩) (ab_ 4 [3] (by kernel_rfl) (fun _ a b => ⟨a.tail, b.2⟩) (s_ rfl (N_ cK_ rfl rfl) rfl (aa_ (H_ 4 rfl (by kernel_rfl) (A_ (cU_ [67]) rfl S_ (fun _ _ _ => by exact trivial) rfl fun _ => ?_)))))))
          refine d_ (o_ rfl (u_ (fun _ a b => ⟨a.tail, b.2⟩) (H_ 5 rfl (by kernel_rfl) (A_ (cV_ [114] (Con.mk 3 [67] 0 0 none 0 [])) rfl S_ (fun _ _ _ => by exact trivial) rfl fun b27 => ?_))))
          refine d_ (o_ rfl (u_ (fun _ a b => ⟨a.tail, b.2.2⟩) (ab_ 1 [6] (by kernel_rfl) (fun _ a b => ⟨a.tail, b.2.2⟩) (s_ rfl (N_ cp_ rfl rfl) rfl (aa_ (H_ 8 rfl (by kernel_rfl) (ah_ 0 ae_ rfl rfl rfl rfl rfl rfl (d_ (o_ rfl ?_)))))))))
          refine u_ (fun _ a b => ⟨a.tail, b.2.2⟩) (ad_ (by kernel_rfl) (aL_ rfl ?_))
          exact bG_ (b26, b27, b25) ⟨rfl, rfl, rfl, rfl, trivial⟩ (j_ h_ (j_ h_ h_)) (fun v _ h => by exact ⟨h.2.1, h.1, h.2.2.1, trivial⟩)
        · skip
          refine A_ (cU_ [67]) rfl S_ (fun _ _ _ => by exact trivial) rfl fun _ => ?_
          refine d_ (o_ rfl (u_ (fun _ a b => ⟨a.tail, b⟩) ?_))
          refine cg_ 2 5 rfl rfl (by kernel_rfl) ?_ ?_
          · skip
            refine X_ P_ k_ aw_ rfl rfl rfl rfl rfl rfl fun b28 => ?_
            refine at_ (List.flatMap Con.cells [(Con.mk 3 [65] 0 0 none 0 []), (Con.mk 3 [66] 0 0 none 0 [])]) h_ rfl ?_
            refine d_ (o_ rfl (u_ (fun _ a b => ⟨a.tail, b.2⟩) (ab_ 3 [3] (by kernel_rfl) (fun _ a b => ⟨a.tail, b.2⟩) (s_ rfl (N_ cK_ rfl rfl) rfl (aa_ (H_ 5 rfl (by kernel_rfl) (A_ (cV_ [114] (Con.mk 3 [67] 0 0 none 0 [])) rfl S_ (fun _ _ _ => by exact trivial) rfl fun b29 => ?_)))))))
            refine d_ (o_ rfl (u_ (fun _ a b => ⟨a.tail, b.2.2⟩) (ab_ 1 [6] (by kernel_rfl) (fun _ a b => ⟨a.tail, b.2.2⟩) (s_ rfl (N_ cp_ rfl rfl) rfl (aa_ (H_ 8 rfl (by kernel_rfl) (ah_ 0 ae_ rfl rfl rfl rfl rfl rfl (d_ (o_ rfl ?_)))))))))
            refine u_ (fun _ a b => ⟨a.tail, b.2.2⟩) (ad_ (by kernel_rfl) (aL_ rfl ?_))
            exact bG_ (b28, b29, b25) ⟨rfl, rfl, rfl, rfl, trivial⟩ (j_ h_ (j_ h_ h_)) (fun v _ h => by exact ⟨h.2.1, h.1, h.2.2.1, trivial⟩)
          · skip
            refine A_ (cV_ [114] (Con.mk 3 [67] 0 0 none 0 [])) rfl S_ (fun _ _ _ => by exact trivial) rfl fun b30 => ?_
            refine d_ (o_ rfl (u_ (fun _ a b => ⟨a.tail, b.2⟩) (H_ 2 rfl (by kernel_rfl) (X_ P_ k_ aw_ rfl rfl rfl rfl rfl rfl fun b31 => ?_))))
            refine at_ (List.flatMap Con.cells [(Con.mk 3 [65] 0 0 none 0 []), (Con.mk 3 [66] 0 0 none 0 [])]) h_ rfl ?_
            refine d_ (o_ rfl (u_ (fun _ a b => ⟨a.tail, b.2.2⟩) (ab_ 1 [3, 6] (by kernel_rfl) (fun _ a b => ⟨a.tail, b.2.2⟩) (s_ rfl (N_ cK_ rfl rfl) rfl (s_ rfl (N_ cp_ rfl rfl) rfl (aa_ (H_ 8 rfl (by kernel_rfl) (ah_ 0 ae_ rfl rfl rfl rfl rfl rfl (d_ ?_)))))))))
            refine o_ rfl (u_ (fun _ a b => ⟨a.tail, b.2.2⟩) (ad_ (by kernel_rfl) (aL_ rfl ?_)))
            exact bG_ (b31, b30, b25) ⟨rfl, rfl, rfl, rfl, trivial⟩ (j_ h_ (j_ h_ h_)) (fun v _ h => by exact ⟨h.1, h.2.1, h.2.2.1, trivial⟩)
    · skip
      refine an_ aT_ rfl fun b32 => ?_
      refine d_ (o_ rfl (u_ (fun _ a b => ⟨a.tail, b⟩) (H_ 1 rfl (by kernel_rfl) (A_ (cU_ [66]) rfl S_ (fun _ _ _ => by exact trivial) rfl fun _ => ?_))))
      refine d_ (o_ rfl (u_ (fun _ a b => ⟨a.tail, b⟩) ?_))
      refine cg_ 2 4 rfl rfl (by kernel_rfl) ?_ ?_
      · skip
        refine X_ P_ k_ aw_ rfl rfl rfl rfl rfl rfl fun b33 => ?_
        refine at_ (List.flatMap Con.cells [(Con.mk 3 [65] 0 0 none 0 []), (Con.mk 3 [66] 0 0 none 0 [])]) h_ rfl ?_
        refine d_ (o_ rfl (u_ (fun _ a b => ⟨a.tail, b.2⟩) (ab_ 4 [3] (by kernel_rfl) (fun _ a b => ⟨a.tail, b.2⟩) (s_ rfl (N_ cK_ rfl rfl) rfl (aa_ (H_ 4 rfl (by kernel_rfl) (A_ (cU_ [67]) rfl S_ (fun _ _ _ => by exact trivial) rfl fun _ => ?_)))))))
        refine d_ (o_ rfl (u_ (fun _ a b => ⟨a.tail, b.2⟩) (H_ 5 rfl (by kernel_rfl) (A_ (cV_ [114] (Con.mk 3 [67] 0 0 none 0 [])) rfl S_ (fun _ _ _ => by exact trivial) rfl fun b34 => ?_))))
        refine d_ (o_ rfl (u_ (fun _ a b => ⟨a.tail, b.2.2⟩) (ab_ 1 [6] (by kernel_rfl) (fun _ a b => ⟨a.tail, b.2.2⟩) (s_ rfl (N_ cp_ rfl rfl) rfl (aa_ (H_ 8 rfl (by kernel_rfl) (ah_ 0 ae_ rfl rfl rfl rfl rfl rfl (d_ (o_ rfl ?_)))))))))
        refine u_ (fun _ a b => ⟨a.tail, b.2.2⟩) (ad_ (by kernel_rfl) (aL_ rfl ?_))
        exact bG_ (b33, b34, b32) ⟨rfl, rfl, rfl, rfl, trivial⟩ (j_ h_ (j_ h_ h_)) (fun v _ h => by exact ⟨h.2.1, h.1, h.2.2.1, trivial⟩)
      · skip
        refine A_ (cU_ [67]) rfl S_ (fun _ _ _ => by exact trivial) rfl fun _ => ?_
        refine d_ (o_ rfl (u_ (fun _ a b => ⟨a.tail, b⟩) ?_))
        refine cg_ 2 5 rfl rfl (by kernel_rfl) ?_ ?_
        · skip
          refine X_ P_ k_ aw_ rfl rfl rfl rfl rfl rfl fun b35 => ?_
          refine at_ (List.flatMap Con.cells [(Con.mk 3 [65] 0 0 none 0 []), (Con.mk 3 [66] 0 0 none 0 [])]) h_ rfl ?_
          refine d_ (o_ rfl (u_ (fun _ a b => ⟨a.tail, b.2⟩) (ab_ 3 [3] (by kernel_rfl) (fun _ a b => ⟨a.tail, b.2⟩) (s_ rfl (N_ cK_ rfl rfl) rfl (aa_ (H_ 5 rfl (by kernel_rfl) (A_ (cV_ [114] (Con.mk 3 [67] 0 0 none 0 [])) rfl S_ (fun _ _ _ => by exact trivial) rfl fun b36 => ?_)))))))
          refine d_ (o_ rfl (u_ (fun _ a b => ⟨a.tail, b.2.2⟩) (ab_ 1 [6] (by kernel_rfl) (fun _ a b => ⟨a.tail, b.2.2⟩) (s_ rfl (N_ cp_ rfl rfl) rfl (aa_ (H_ 8 rfl (by kernel_rfl) (ah_ 0 ae_ rfl rfl rfl rfl rfl rfl (d_ (o_ rfl ?_)))))))))
          refine u_ (fun _ a b => ⟨a.tail, b.2.2⟩) (ad_ (by kernel_rfl) (aL_ rfl ?_))
          exact bG_ (b35, b36, b32) ⟨rfl, rfl, rfl, rfl, trivial⟩ (j_ h_ (j_ h_ h_)) (fun v _ h => by exact ⟨h.2.1, h.1, h.2.2.1, trivial⟩)
        · skip
          refine A_ (cV_ [114] (Con.mk 3 [67] 0 0 none 0 [])) rfl S_ (fun _ _ _ => by exact trivial) rfl fun b37 => ?_
          refine d_ (o_ rfl (u_ (fun _ a b => ⟨a.tail, b.2⟩) (H_ 2 rfl (by kernel_rfl) (X_ P_ k_ aw_ rfl rfl rfl rfl rfl rfl fun b38 => ?_))))
          refine at_ (List.flatMap Con.cells [(Con.mk 3 [65] 0 0 none 0 []), (Con.mk 3 [66] 0 0 none 0 [])]) h_ rfl ?_
          refine d_ (o_ rfl (u_ (fun _ a b => ⟨a.tail, b.2.2⟩) (ab_ 1 [3, 6] (by kernel_rfl) (fun _ a b => ⟨a.tail, b.2.2⟩) (s_ rfl (N_ cK_ rfl rfl) rfl (s_ rfl (N_ cp_ rfl rfl) rfl (aa_ (H_ 8 rfl (by kernel_rfl) (ah_ 0 ae_ rfl rfl rfl rfl rfl rfl (d_ ?_)))))))))
          refine o_ rfl (u_ (fun _ a b => ⟨a.tail, b.2.2⟩) (ad_ (by kernel_rfl) (aL_ rfl ?_)))
          exact bG_ (b38, b37, b32) ⟨rfl, rfl, rfl, rfl, trivial⟩ (j_ h_ (j_ h_ h_)) (fun v _ h => by exact ⟨h.1, h.2.1, h.2.2.1, trivial⟩)
  · skip
    rintro ⟨z3_2, z3_5c0, z3_7⟩
    dsimp only
    refine c_ rfl (f_ (f_ (b_ (a_ (G_ 0 bR_ ae_ rfl rfl rfl) rfl (a_ (N_ by_ rfl rfl) rfl (a_ (N_ by_ rfl rfl) rfl (a_ (N_ by_ rfl rfl) rfl (X_ I_ U_ af_ rfl rfl rfl rfl rfl rfl fun b39 => ?_))))))))
    refine at_ (List.flatMap Pc.cells [(Pc.mk 2 [65] [66] [60, 65, 32, 97, 110, 100, 32, 66, 62] [] [] [] 0 0 0), (Pc.mk 3 [60, 115, 111, 109, 101, 32, 114, 32, 67, 62] [] [67] [114] [] [] 0 0 0), (Pc.mk 1 [60, 65, 32, 97, 110, 100, 32, 66, 62] [] [60, 115, 111, 109, 101, 32, 114, 32, 67, 62] [] [] [] 0 0 0)]) h_ rfl ?_
    refine A_ (dz_ (Ax.mk 1 false (Con.mk 5 [] 0 0 (some ⟨z3_2, 0, none⟩) 2 [(Con.mk 3 [65] 0 0 none 0 []), (Con.mk 3 [66] 0 0 none 0 [])]) (Con.mk 6 [114] 0 0 (some ⟨z3_5c0, 0, none⟩) 1 [(Con.mk 3 [67] 0 0 none 0 [])]) none 0 [] [] [] []) (kU_ z3_2 z3_5c0) [(Pc.mk 2 [65] [66] [60, 65, 32, 97, 110, 100, 32, 66, 62] [] [] [] 0 0 0), (Pc.mk 3 [60, 115, 111, 109, 101, 32, 114, 32, 67, 62] [] [67] [114] [] [] 0 0 0), (Pc.mk 1 [60, 65, 32, 97, 110, 100, 32, 66, 62] [] [60, 115, 111, 109, 101, 32, 114, 32, 67, 62] [] [] [] 0 0 0)] (some ⟨b39, 0, none⟩) 3 (by decide) (flat1 z3_2 z3_5c0)) rfl S_ (fun v _ h => by exact ⟨⟨⟨h.2.1, ⟨⟨.inl rfl, trivial⟩, ⟨⟨.inl rfl, trivial⟩, trivial⟩⟩⟩, ⟨h.2.2.1, ⟨⟨.inl rfl, trivial⟩, trivial⟩⟩, (.inl rfl)⟩, h.1, h.2.2.2.1, trivial⟩) rfl fun _ => ?_
    refine a_ (bf_ rfl) rfl (d_ (c_ rfl (r_ rfl (D_ (c_ rfl (f_ (f_ ?_)))))))
    refine hu_ (ι := Nat × Nat) (fun z => [(0, .bool false), (1, zp_ b1 0), (40, .bool false)]) (fun z => ((z3_7, .cells #[.int .i64 1, .bool false, .int .i64 5, str [], .int .i64 0, .int .i64 0, .slice (some ⟨z3_2, 0, none⟩) (List.length [(Con.mk 3 [65] 0 0 none 0 []), (Con.mk 3 [66] 0 0 none 0 [])]) 2, .int .i64 6, str [114], .int .i64 0, .int .i64 0, .slice (some ⟨z3_5c0, 0, none⟩) (List.length [(Con.mk 3 [67] 0 0 none 0 [])]) 1, .slice none 0 0, str [], str [], str []] 41 (0, 0)) :: ((b2, .cells #[.int .i64 7, str [97, 103, 101], .int .i64 0, .int .i64 17, .slice none 0 0] 38 (0, 0)) :: ((b1, .cells #[.int .i64 3, str [65], .int .i64 0, .int .i64 0, .slice none 0 0] 38 (0, 0)) :: [])))) (fun z => [bQ_ (some ⟨z.1, 0, none⟩) (List.flatMap Pc.cells [(Pc.mk 9 [] [] [60, 97, 103, 101, 32, 105, 110, 32, 48, 32, 116, 111, 32, 49, 55, 62] [97, 103, 101] [] [] 0 17 0), (Pc.mk 1 [60, 97, 103, 101, 32, 105, 110, 32, 48, 32, 116, 111, 32, 49, 55, 62] [] [77, 105, 110, 111, 114] [] [] [] 0 0 0)]), bQ_ (some ⟨z.2, 0, none⟩) (List.flatMap Pc.cells [(Pc.mk 2 [65] [65] [33] [] [] [] 0 0 0)]), bQ_ (some ⟨b39, 0, none⟩) (List.flatMap Pc.cells [(Pc.mk 2 [65] [66] [60, 65, 32, 97, 110, 100, 32, 66, 62] [] [] [] 0 0 0), (Pc.mk 3 [60, 115, 111, 109, 101, 32, 114, 32, 67, 62] [] [67] [114] [] [] 0 0 0), (Pc.mk 1 [60, 65, 32, 97, 110, 100, 32, 66, 62] [] [60, 115, 111, 109, 101, 32, 114, 32, 67, 62] [] [] [] 0 0 0)]), bQ_ (some ⟨z3_2, 0, none⟩) (List.flatMap Con.cells [(Con.mk 3 [65] 0 0 none 0 []), (Con.mk 3 [66] 0 0 none 0 [])]), bQ_ (some ⟨z3_5c0, 0, none⟩) (List.flatMap Con.cells [(Con.mk 3 [67] 0 0 none 0 [])]), bH_]) ?_ ?_
    · skip
      refine br_ (by kernel_rfl) ?_
      refine ab_ 13 [0, 1, 2, 3] (by kernel_rfl) (fun _ a b => ⟨a, b⟩) (s_ rfl (G_ 2 x_ k_ rfl rfl rfl) rfl (s_ rfl (G_ 2 x_ k_ rfl rfl rfl) rfl (s_ rfl (N_ cp_ rfl rfl) rfl (s_ rfl (N_ by_ rfl rfl) rfl (aa_ (H_ 4 rfl (by kernel_rfl) (X_ I_ U_ af_ rfl rfl rfl rfl rfl rfl fun b40 => ?_)))))))
      refine at_ (List.flatMap Pc.cells [(Pc.mk 2 [65] [65] [33] [] [] [] 0 0 0)]) h_ rfl ?_
      refine d_ (o_ rfl (u_ (fun _ a b => ⟨a, b.2⟩) (H_ 5 rfl (by kernel_rfl) (A_ (dz_ (Ax.mk 3 false (Con.mk 3 [65] 0 0 none 0 []) (Con.mk 3 [65] 0 0 none 0 []) none 0 [] [] [] []) kT_ [(Pc.mk 2 [65] [65] [33] [] [] [] 0 0 0)] (some ⟨b40, 0, none⟩) 1 (by decide) flat2) rfl S_ (fun v _ h => by exact ⟨⟨⟨.inl rfl, trivial⟩, ⟨.inl rfl, trivial⟩, (.inl rfl)⟩, h.1, h.2.2.2.2.1, trivial⟩) rfl fun _ => ?_))))
      refine d_ (o_ rfl (u_ (fun _ a b => ⟨a, b.2⟩) (ab_ 6 [6, 7, 8, 11, 12] (by kernel_rfl) (fun _ a b => ⟨a, b.2⟩) (s_ rfl (bf_ rfl) rfl (s_ rfl (g_ rfl) rfl (aR_ rfl rfl rfl (G_ 1 x_ k_ rfl rfl rfl) rfl (aR_ rfl rfl rfl (N_ by_ rfl rfl) rfl (aR_ rfl rfl rfl (N_ by_ rfl rfl) rfl (aa_ ?_)))))))))
      refine fM_ [9, 13] (by kernel_rfl) (by simp) ?_
      intro i hi; simp only [List.mem_cons, List.not_mem_nil, or_false] at hi; rcases hi with rfl | rfl
      · refine ⟨_, rfl, ?_⟩
        refine n_ rfl rfl (A_ (cU_ [77, 105, 110, 111, 114]) rfl S_ (fun _ _ _ => by exact trivial) rfl fun _ => ?_)
        refine d_ (o_ rfl (u_ (fun _ a b => ⟨a, b.2⟩) (ab_ 4 [10] (by kernel_rfl) (fun _ a b => ⟨a, b.2⟩) (aR_ rfl rfl rfl (N_ cp_ rfl rfl) rfl (aa_ (H_ 13 rfl (by kernel_rfl) (n_ rfl rfl (X_ I_ U_ af_ rfl rfl rfl rfl rfl rfl fun b41 => ?_))))))))
        refine at_ (List.flatMap Pc.cells [(Pc.mk 9 [] [] [60, 97, 103, 101, 32, 105, 110, 32, 48, 32, 116, 111, 32, 49, 55, 62] [97, 103, 101] [] [] 0 17 0), (Pc.mk 1 [60, 97, 103, 101, 32, 105, 110, 32, 48, 32, 116, 111, 32, 49, 55, 62] [] [77, 105, 110, 111, 114] [] [] [] 0 0 0)]) h_ rfl ?_
        refine d_ (o_ rfl (u_ (fun _ a b => ⟨a, b.2.2⟩) (H_ 14 rfl (by kernel_rfl) (n_ rfl rfl (A_ (dz_ (Ax.mk 1 false (Con.mk 7 [97, 103, 101] 0 17 none 0 []) (Con.mk 3 [77, 105, 110, 111, 114] 0 0 none 0 []) none 0 [] [] [] []) iv_ [(Pc.mk 9 [] [] [60, 97, 103, 101, 32, 105, 110, 32, 48, 32, 116, 111, 32, 49, 55, 62] [97, 103, 101] [] [] 0 17 0), (Pc.mk 1 [60, 97, 103, 101, 32, 105, 110, 32, 48, 32, 116, 111, 32, 49, 55, 62] [] [77, 105, 110, 111, 114] [] [] [] 0 0 0)] (some ⟨b41, 0, none⟩) 2 (by decide) lR_) rfl S_ (fun v _ h => by exact ⟨⟨⟨.inl rfl, trivial⟩, ⟨.inl rfl, trivial⟩, (.inl rfl)⟩, h.1, h.2.2.2.2.2.1, trivial⟩) rfl fun _ => ?_)))))
        refine d_ (o_ rfl (u_ (fun _ a b => ⟨a, b.2.2⟩) (ab_ 0 [15, 16] (by kernel_rfl) (fun _ a b => ⟨a, b.2.2⟩) (aR_ rfl rfl rfl (bf_ rfl) rfl (s_ rfl (F_ rfl rfl) rfl (aa_ (ad_ (by kernel_rfl) (aL_ rfl ?_))))))))
        exact bG_ (b41, b40) ⟨rfl, rfl, rfl, trivial⟩ (j_ h_ (j_ h_ h_)) (fun v _ h => by exact ⟨h.1, h.2.1, h.2.2.1, h.2.2.2.1, h.2.2.2.2.1, h.2.2.2.2.2.1, trivial⟩)
      · refine ⟨_, rfl, ?_⟩
        refine n_ rfl rfl (X_ I_ U_ af_ rfl rfl rfl rfl rfl rfl fun b42 => ?_)
        refine at_ (List.flatMap Pc.cells [(Pc.mk 9 [] [] [60, 97, 103, 101, 32, 105, 110, 32, 48, 32, 116, 111, 32, 49, 55, 62] [97, 103, 101] [] [] 0 17 0), (Pc.mk 1 [60, 97, 103, 101, 32, 105, 110, 32, 48, 32, 116, 111, 32, 49, 55, 62] [] [77, 105, 110, 111, 114] [] [] [] 0 0 0)]) h_ rfl ?_
        refine d_ (o_ rfl (u_ (fun _ a b => ⟨a, b.2.2⟩) (H_ 9 rfl (by kernel_rfl) (n_ rfl rfl (A_ (cU_ [77, 105, 110, 111, 114]) rfl S_ (fun _ _ _ => by exact trivial) rfl fun _ => ?_)))))
        refine d_ (o_ rfl (u_ (fun _ a b => ⟨a, b.2.2⟩) (ab_ 3 [10] (by kernel_rfl) (fun _ a b => ⟨a, b.2.2⟩) (aR_ rfl rfl rfl (N_ cp_ rfl rfl) rfl (aa_ (H_ 14 rfl (by kernel_rfl) (n_ rfl rfl (A_ (dz_ (Ax.mk 1 false (Con.mk 7 [97, 103, 101] 0 17 none 0 []) (Con.mk 3 [77, 105, 110, 111, 114] 0 0 none 0 []) none 0 [] [] [] []) iv_ [(Pc.mk 9 [] [] [60, 97, 103, 101, 32, 105, 110, 32, 48, 32, 116, 111, 32, 49, 55, 62] [97, 103, 101] [] [] 0 17 0), (Pc.mk 1 [60, 97, 103, 101, 32, 105, 110, 32, 48, 32, 116, 111, 32, 49, 55, 62] [] [77, 105, 110, 111, 114] [] [] [] 0 0 0)] (some ⟨b42, 0, none⟩) 2 (by decide) lR_) rfl S_ (fun v _ h => by exact ⟨⟨⟨.inl rfl, trivial⟩, ⟨.inl rfl, trivial⟩, (.inl rfl)⟩, h.1, h.2.2.2.2.2.1, trivial⟩) rfl fun _ => ?_))))))))
        refine d_ (o_ rfl (u_ (fun _ a b => ⟨a, b.2.2⟩) (ab_ 0 [15, 16] (by kernel_rfl) (fun _ a b => ⟨a, b.2.2⟩) (aR_ rfl rfl rfl (bf_ rfl) rfl (s_ rfl (F_ rfl rfl) rfl (aa_ (ad_ (by kernel_rfl) (aL_ rfl ?_))))))))
        exact bG_ (b42, b40) ⟨rfl, rfl, rfl, trivial⟩ (j_ h_ (j_ h_ h_)) (fun v _ h => by exact ⟨h.1, h.2.1, h.2.2.1, h.2.2.2.1, h.2.2.2.2.1, h.2.2.2.2.2.1, trivial⟩)
    · skip
      rintro ⟨z6_13, z6_4⟩
      dsimp only
      refine c_ rfl (r_ rfl (D_ (c_ rfl (f_ (f_ (b_ (a_ (N_ cK_ rfl rfl) rfl (A_ (cV_ [114] (Con.mk 1 [] 0 0 none 0 [])) rfl S_ (fun _ _ _ => by exact trivial) rfl fun b43 => ?_))))))))
      refine a_ (N_ cp_ rfl rfl) rfl (a_ (N_ by_ rfl rfl) rfl (a_ (N_ by_ rfl rfl) rfl (X_ I_ U_ af_ rfl rfl rfl rfl rfl rfl fun b44 => ?_)))
      refine at_ (List.flatMap Pc.cells [(Pc.mk 3 [60, 115, 111, 109, 101, 32, 114, 32, 101, 118, 101, 114, 121, 116, 104, 105, 110, 103, 62] [] [42] [114] [] [] 0 0 0), (Pc.mk 1 [123, 97, 125] [] [60, 115, 111, 109, 101, 32, 114, 32, 101, 118, 101, 114, 121, 116, 104, 105, 110, 103, 62] [] [] [] 0 0 0)]) h_ rfl ?_
      refine A_ (dz_ (Ax.mk 8 false (Con.mk 0 [] 0 0 none 0 []) (Con.mk 6 [114] 0 0 (some ⟨b43, 0, none⟩) 1 [(Con.mk 1 [] 0 0 none 0 [])]) none 0 [] [] [97] []) (kS_ b43) [(Pc.mk 3 [60, 115, 111, 109, 101, 32, 114, 32, 101, 118, 101, 114, 121, 116, 104, 105, 110, 103, 62] [] [42] [114] [] [] 0 0 0), (Pc.mk 1 [123, 97, 125] [] [60, 115, 111, 109, 101, 32, 114, 32, 101, 118, 101, 114, 121, 116, 104, 105, 110, 103, 62] [] [] [] 0 0 0)] (some ⟨b44, 0, none⟩) 2 (by decide) (flat4 b43)) rfl S_ (fun v _ h => by exact ⟨⟨⟨.inl rfl, trivial⟩, ⟨h.2.1, ⟨⟨.inl rfl, trivial⟩, trivial⟩⟩, (.inl rfl)⟩, h.1, h.2.2.2.2.2.2.2.1, trivial⟩) rfl fun _ => ?_
      refine a_ (bf_ rfl) rfl (a_ (g_ rfl) rfl (n_ rfl rfl (X_ J_ z_ co_ rfl rfl rfl rfl rfl rfl fun b45 => ?_)))
      refine at_ (List.flatMap cn_ [[114], [114]]) h_ rfl ?_
      refine n_ rfl rfl (a_ (N_ cp_ rfl rfl) rfl (n_ rfl rfl (a_ (N_ by_ rfl rfl) rfl (n_ rfl rfl (X_ I_ U_ af_ rfl rfl rfl rfl rfl rfl fun b46 => ?_)))))
      refine at_ (List.flatMap Pc.cells [(Pc.mk 6 [] [] [] [114] [114] [114] 0 0 0)]) h_ rfl ?_
      refine n_ rfl rfl (A_ (dz_ (Ax.mk 6 false (Con.mk 0 [] 0 0 none 0 []) (Con.mk 0 [] 0 0 none 0 []) (some ⟨b45, 0, none⟩) 2 [[114], [114]] [114] [] []) (kR_ b45) [(Pc.mk 6 [] [] [] [114] [114] [114] 0 0 0)] (some ⟨b46, 0, none⟩) 1 (by decide) (flat5 b45)) rfl S_ (fun v _ h => by exact ⟨⟨⟨.inl rfl, trivial⟩, ⟨.inl rfl, trivial⟩, h.2.1⟩, h.1, h.2.2.2.2.2.2.2.2.2.1, trivial⟩) rfl fun _ => ?_)
      refine n_ rfl rfl (a_ (bf_ rfl) rfl (a_ (F_ rfl rfl) rfl (d_ (c_ rfl (r_ rfl (D_ (c_ rfl (f_ ?_))))))))
      refine br_ (by kernel_rfl) ?_
      refine ab_ 11 [0] (by kernel_rfl) (fun _ a b => ⟨a, b⟩) (s_ rfl (G_ 2 x_ k_ rfl rfl rfl) rfl (aa_ (H_ 1 rfl (by kernel_rfl) (A_ (cU_ [66]) rfl S_ (fun _ _ _ => by exact trivial) rfl fun _ => ?_))))
      refine d_ (o_ rfl (u_ (fun _ a b => ⟨a, b⟩) (H_ 2 rfl (by kernel_rfl) (A_ (cV_ [114] (Con.mk 3 [66] 0 0 none 0 [])) rfl S_ (fun _ _ _ => by exact trivial) rfl fun b47 => ?_))))
      refine d_ (o_ rfl (u_ (fun _ a b => ⟨a, b.2⟩) (ab_ 8 [3] (by kernel_rfl) (fun _ a b => ⟨a, b.2⟩) (s_ rfl (N_ cp_ rfl rfl) rfl (aa_ (H_ 4 rfl (by kernel_rfl) (A_ (goal_e (Ax.mk 1 false (Con.mk 3 [65] 0 0 none 0 []) (Con.mk 6 [114] 0 0 (some ⟨b47, 0, none⟩) 1 [(Con.mk 3 [66] 0 0 none 0 [])]) none 0 [] [] [] []) (lE_ b47) (goalS b47)) rfl S_ (fun v _ h => by exact ⟨⟨⟨.inl rfl, trivial⟩, ⟨h.1, ⟨⟨.inl rfl, trivial⟩, trivial⟩⟩, (.inl rfl)⟩, h.2.2.2.2.2.2.2.2.2.2.1, trivial⟩) rfl fun ⟨⟨adp, cpp, adf, cpf⟩, hgl⟩ => ?_)))))))
      dsimp only
      refine d_ (o_ rfl (u_ (fun _ a b => ⟨a, b.2.2.2⟩) (ab_ 0 [5, 6, 7, 8, 9, 10, 11] (by kernel_rfl) (fun _ a b => ⟨a, b.2.2.2⟩) (s_ rfl (g_ rfl) rfl (s_ rfl (aD_ rfl rfl) rfl (s_ rfl (aD_ rfl rfl) rfl (s_ rfl (aD_ rfl rfl) rfl (s_ rfl (e_ rfl) rfl (s_ rfl (e_ rfl) rfl ?_)))))))))
      refine s_ rfl (e_ rfl) rfl (aa_ (ad_ (by kernel_rfl) (c_ rfl (f_ (b_ (a_ (N_ by_ rfl rfl) rfl (a_ (N_ by_ rfl rfl) rfl (a_ (N_ by_ rfl rfl) rfl (X_ I_ U_ af_ rfl rfl rfl rfl rfl rfl fun b48 => ?_)))))))))
      refine at_ (List.flatMap Pc.cells [(Pc.mk 1 [65] [] [42] [] [] [] 0 0 (-1)), (Pc.mk 1 [60, 115, 111, 109, 101, 32, 114, 32, 66, 62] [] [42] [] [] [] 0 0 (-1)), (Pc.mk 4 [66] [] [60, 115, 111, 109, 101, 32, 114, 32, 66, 62] [114] [] [] 0 0 (-1))]) h_ rfl ?_
      refine a_ (e_ rfl) rfl (d_ (c_ rfl (f_ (b_ (a_ (g_ rfl) rfl (a_ (g_ rfl) rfl (A_ (kE_ [(Pc.mk 1 [65] [] [42] [] [] [] 0 0 (-1)), (Pc.mk 1 [60, 115, 111, 109, 101, 32, 114, 32, 66, 62] [] [42] [] [] [] 0 0 (-1)), (Pc.mk 4 [66] [] [60, 115, 111, 109, 101, 32, 114, 32, 66, 62] [114] [] [] 0 0 (-1))] adp (some ⟨b48, 0, none⟩) cpp 3 (by decide)) rfl S_ (fun v _ h => by exact ⟨h.2.1, h.1, trivial⟩) rfl fun _ => ?_)))))))
      refine a_ (g_ rfl) rfl (n_ rfl rfl (a_ (g_ rfl) rfl (n_ rfl rfl (a_ (ar_ cc_ rfl) rfl (n_ rfl rfl (a_ (bB_ (ai_ rfl rfl) (show _ = Value.bool true from congrArg Value.bool (by decide))) rfl (a_ (K_ rfl rfl) rfl (a_ (g_ rfl) rfl (n_ rfl rfl ?_)))))))))
      refine a_ (g_ rfl) rfl (n_ rfl rfl (a_ (am_ cc_ cG_ rfl rfl (fun v _ h => aS_ (n := 6) Fc.cells_len (by decide) (by exact h.2.2.1) (show [(Fc.mk 1 [65] [60, 115, 111, 109, 101, 32, 114, 32, 66, 62] [] 0 0)][0]? = some _ from rfl)) (by omega) (by first | omega | (simp; done))) rfl (n_ rfl rfl (a_ (aH_ (ad := adf) (us := Fc.cells (Fc.mk 1 [65] [60, 115, 111, 109, 101, 32, 114, 32, 66, 62] [] 0 0)) Tryz.isAgg50 cG_ rfl (fun v _ h => by exact h.2.2.1) (Fc.cells_len _) (ao_ Fc.cells_len (show [(Fc.mk 1 [65] [60, 115, 111, 109, 101, 32, 114, 32, 66, 62] [] 0 0)][0]? = some _ from rfl))) rfl (n_ rfl rfl (a_ (N_ iQ_ rfl rfl) rfl (n_ rfl rfl (a_ (bB_ (jI_ (p := (Fc.mk 1 [65] [60, 115, 111, 109, 101, 32, 114, 32, 66, 62] [] 0 0)) (q := (Fc.mk 1 [65] [60, 115, 111, 109, 101, 32, 114, 32, 66, 62] [] 0 0)) rfl rfl) (show _ = Value.bool true from congrArg Value.bool (decide_eq_true rfl))) rfl (a_ (K_ rfl rfl) rfl ?_)))))))))
      refine a_ (g_ rfl) rfl (n_ rfl rfl (a_ (g_ rfl) rfl (n_ rfl rfl (a_ (bB_ (ai_ rfl rfl) (show _ = Value.bool true from congrArg Value.bool (by decide))) rfl (a_ (K_ rfl rfl) rfl (a_ (g_ rfl) rfl (n_ rfl rfl (a_ (g_ rfl) rfl (n_ rfl rfl ?_)))))))))
      refine A_ (jC_ [(Pc.mk 1 [65] [] [42] [] [] [] 0 0 (-1)), (Pc.mk 1 [60, 115, 111, 109, 101, 32, 114, 32, 66, 62] [] [42] [] [] [] 0 0 (-1)), (Pc.mk 4 [66] [] [60, 115, 111, 109, 101, 32, 114, 32, 66, 62] [114] [] [] 0 0 (-1))] adp cpp (by decide) (Pc.sm_all rfl) (er := 0) (by kernel_rfl)) rfl S_ (fun v _ h => by exact ⟨h.2.1, h.2.2.2.2.2.2.2.2.2.2.2.2.2.1.2.2.1, trivial⟩) rfl fun _ => ?_
      refine n_ rfl rfl (a_ (bB_ (ai_ rfl rfl) (show _ = Value.bool true from congrArg Value.bool (by decide))) rfl (a_ (K_ rfl rfl) rfl (a_ (g_ rfl) rfl (n_ rfl rfl (a_ (N_ by_ rfl rfl) rfl (n_ rfl rfl (X_ I_ U_ af_ rfl rfl rfl rfl rfl rfl fun b49 => ?_)))))))
      refine at_ (List.flatMap Pc.cells [(Pc.mk 0 [] [] [] [] [] [] 0 0 0)]) h_ rfl ?_
      refine n_ rfl rfl (A_ (jC_ [(Pc.mk 0 [] [] [] [] [] [] 0 0 0)] (some ⟨b49, 0, none⟩) 1 (by decide) (Pc.sm_all rfl) (er := 1) (by kernel_rfl)) rfl S_ (fun v _ h => by exact ⟨h.1, h.2.2.2.2.2.2.2.2.2.2.2.2.2.2.1.2.2.1, trivial⟩) rfl fun _ => ?_)
      refine n_ rfl rfl (a_ (bB_ (ai_ rfl rfl) (show _ = Value.bool true from congrArg Value.bool (by decide))) rfl (a_ (K_ rfl rfl) rfl (a_ (e_ rfl) rfl (d_ (c_ rfl (B_ ?_))))))
      exact aj_ Tryz.results10 () rfl (.refl _) (fun _ _ _ => trivial)
end Go.Proofs.YtoafjmalfclpoaaGreatDoor
namespace Go.Vs
open Go Go.Sx
def vw (W : World) : Vw := ⟨fun b => b < W.heap.size, W, True⟩
theorem vw_sat (W : World) : (vw W).sat [] := ⟨(fun _ h => by cases h), (by simp), fun _ h => h⟩
section
variable {H : Type} {enc : TypeId × Value → H} {P : Program} {W : World}
abbrev wok (l : List Nat) : Prop := l.all (· ≤ reachBytes) = true
theorem fh_ {a b : List Nat} : wok (a ++ b) ↔ wok a ∧ wok b := by simp [wok, List.all_append]
theorem ks_ {n : Nat} {b : List Nat} : wok (n :: b) ↔ n ≤ reachBytes ∧ wok b := by simp [wok]
theorem kt_ {e : TypeId} : ∀ {ds : List (DataW H)}, wok (DataW.weightsAll P e ds) → ∀ d ∈ ds, wok (d.weights P e)
  | [], _, _, h => by cases h
  | x :: ds, hw, d, hd => by
    rw [DataW.weightsAll, fh_] at hw
    rcases List.mem_cons.1 hd with rfl | hd
    · exact hw.1
    · exact kt_ hw.2 d hd
theorem lx_ {α : Type} [Inhabited α] (f : α → List Value) (k : Nat) (hk : ∀ x, (f x).length = k) (hk0 : 0 < k) (Q : α → Prop) {ts te : TypeId} (hs : P.underlying ts = some (.slice te)) (hc : P.cellsOf te = k) {n : Nat} {cs : List Value} {x : DataW H × List MemPlace}
    (hread : ∀ m, m < n → ∀ cs' y, DataW.trod enc P W 0 (fun _ => true) true m te cs' = some y → wok (y.1.weights P te) → ∃ c, cs' = f c ∧ Q c)
    (h : DataW.trod enc P W 0 (fun _ => true) true n ts cs = some x) (hw : wok (x.1.weights P ts)) :
    ∃ (l : List α) (ad : Option Addr) (cap : Nat), cs = [.slice ad l.length cap] ∧ bq_ (vw W) ad (l.flatMap f) ∧ (∀ c ∈ l, Q c) ∧ l.length ≤ cap ∧ cap * P.bytesOf te ≤ reachBytes := by
  rcases DataW.trod_slice hs h with ⟨h0, _⟩ | ⟨a, len, cap, elems, rest, m, hn, rfl, rfl, _, hl, _, hlen, hel, hsp, _⟩
  · exact ⟨[], none, 0, h0, .inl rfl, (fun _ h => by cases h), Nat.le_refl _, by simp⟩
  · obtain ⟨hr, _⟩ := hsp rfl
    simp only [DataW.weights, hs, ks_, fh_, List.length_map] at hw
    have hcap : cap * P.bytesOf te ≤ reachBytes := by
      have e : elems.length + rest.length = cap := by omega
      rw [← e]; exact hw.1
    have hone : ∀ i, i < len → ∃ c : α, W.cells? 0 (a.add (i * k)) k = some (f c) ∧ Q c := fun i hi => by
      have he := hel i hi
      rw [hc, List.getElem?_eq_getElem (by omega)] at he
      obtain ⟨cs', h1, h2⟩ := Option.bind_eq_some_iff.1 he
      obtain ⟨c, rfl, hq⟩ := hread m (by omega) cs' _ h2 (kt_ hw.2.1 _ (List.mem_map_of_mem (List.getElem_mem (by omega))))
      exact ⟨c, h1, hq⟩
    obtain ⟨C, hC⟩ := Deep.choose_lt hone
    refine ⟨(List.range len).map C, some a, cap, by simp, ?_, ?_, by simpa using hl, hcap⟩
    · by_cases h0 : len = 0
      · left; simp [h0]
      · have h1 := (hC 0 (by omega)).1
        obtain ⟨_, _, hcell⟩ := World.cells?_some h1
        have hc0 := hcell 0 hk0
        have hlt : 0 < (f (C 0)).length := by rw [hk]; exact hk0
        rw [List.getElem?_eq_getElem hlt] at hc0
        cases hb : W.heap[a.block]? with
        | none => simp [World.cell?, Addr.add, hb] at hc0
        | some o =>
          cases o with
          | cells arr T fz =>
            have hspot : a.spot = none := by
              cases hsp2 : a.spot with
              | none => rfl
              | some s => simp [World.cell?, Addr.add, hb, hsp2] at hc0
            obtain ⟨b, off, sp⟩ := a
            simp only at hspot hb
            subst hspot
            right
            refine ⟨b, off, arr, T, fz, rfl, (Array.getElem?_eq_some_iff.1 hb).1, hb, fun j y hj => ?_⟩
            have hjlt : j < len * k := by
              have := (List.getElem?_eq_some_iff.1 hj).1
              rw [cC_ f k hk] at this
              simpa using this
            have hi : j / k < len := Nat.div_lt_of_lt_mul (by rw [Nat.mul_comm]; exact hjlt)
            have hr' : j % k < k := Nat.mod_lt _ hk0
            have e : j = (j / k) * k + j % k := by rw [Nat.mul_comm]; exact (Nat.div_add_mod j k).symm
            have hget : ((List.range len).map C)[j / k]? = some (C (j / k)) := by simp [hi]
            rw [e, gP_ f k hk _ (j / k) (j % k) _ hget hr'] at hj
            obtain ⟨_, _, hcell⟩ := World.cells?_some (hC (j / k) hi).1
            have := hcell (j % k) hr'
            rw [hj, cu_, cu_] at this
            rw [e]
            simpa [World.cell?, hb, Nat.add_assoc] using this
          | _ => simp [World.cell?, Addr.add, hb] at hc0
    · intro c hc'
      obtain ⟨i, hi, rfl⟩ := List.mem_map.1 hc'
      exact (hC i (by simpa using hi)).2
end
instance : Inhabited Con := ⟨.mk 0 [] 0 0 none 0 []⟩
instance : Inhabited Ax := ⟨⟨0, false, default, default, none, 0, [], [], [], []⟩⟩
instance : Inhabited Pc := ⟨⟨0, [], [], [], [], [], [], 0, 0, 0⟩⟩
structure Tys (P : Program) (tI tB tS tSs tC tCs tA tAs tP tPs : TypeId) : Prop where
  i : P.underlying tI = some (.int .i64)
  b : P.underlying tB = some .bool
  s : P.underlying tS = some .string
  ss : P.underlying tSs = some (.slice tS)
  c : ∃ fs, P.underlying tC = some (.struct fs) ∧ fs.toList.map (fun f => (f.type, f.offset)) = [(tI, 0), (tS, 1), (tI, 2), (tI, 3), (tCs, 4)]
  cs : P.underlying tCs = some (.slice tC)
  a : ∃ fs, P.underlying tA = some (.struct fs) ∧ fs.toList.map (fun f => (f.type, f.offset)) = [(tI, 0), (tB, 1), (tC, 2), (tC, 7), (tSs, 12), (tS, 13), (tS, 14), (tS, 15)]
  axs : P.underlying tAs = some (.slice tA)
  p : ∃ fs, P.underlying tP = some (.struct fs) ∧ fs.toList.map (fun f => (f.type, f.offset)) = [(tI, 0), (tS, 1), (tS, 2), (tS, 3), (tS, 4), (tS, 5), (tS, 6), (tI, 7), (tI, 8), (tI, 9)]
  ps : P.underlying tPs = some (.slice tP)
  ci : P.cellsOf tI = 1
  cb : P.cellsOf tB = 1
  cs1 : P.cellsOf tS = 1
  css : P.cellsOf tSs = 1
  cc : P.cellsOf tC = 5
  ccs : P.cellsOf tCs = 1
  ca : P.cellsOf tA = 16
  cp : P.cellsOf tP = 10
  bs : P.bytesOf tS = 16
  bc : P.bytesOf tC = 64
  ba : P.bytesOf tA = 216
  bp : P.bytesOf tP = 128
section
variable {H : Type} {enc : TypeId × Value → H} {P : Program} {W : World} {tI tB tS tSs tC tCs tA tAs tP tPs : TypeId} (X : Tys P tI tB tS tSs tC tCs tA tAs tP tPs)
theorem fields_of {t : TypeId} {fs : Array Field} {L : List (TypeId × Nat)} {cs : List Value} {n : Nat} {x : DataW H × List MemPlace} (ht : P.underlying t = some (.struct fs)) (hL : fs.toList.map (fun f => (f.type, f.offset)) = L) (h : DataW.trod enc P W 0 (fun _ => true) true n t cs = some x) :
    ∃ (xs : List (DataW H × List MemPlace)) (m : Nat), n = m + 1 ∧ x.1 = .agg (xs.map (·.1)) ∧ cs.length = P.cellsOf t ∧ xs.length = L.length ∧ (∀ (i : Nat) q, L[i]? = some q → DataW.trod enc P W 0 (fun _ => true) true m q.1 ((cs.drop q.2).take (P.cellsOf q.1)) = xs[i]?) ∧
      (x.1.weights P t = DataW.weightsEach P (L.map (·.1)) (xs.map (·.1))) := by
  obtain ⟨xs, m, hn, hx, hl, hlen, hf⟩ := DataW.trod_struct ht h
  refine ⟨xs, m, hn, by rw [hx], hl, by rw [hlen, ← hL]; simp, fun i q hq => ?_, ?_⟩
  · rw [← hL, List.getElem?_map, Option.map_eq_some_iff] at hq
    obtain ⟨f, hf', rfl⟩ := hq
    exact hf i f (by simpa using hf')
  · rw [hx]; simp only [DataW.weights, ht]
    congr 1
    rw [← hL, List.map_map]; rfl
include X
theorem str_of {n : Nat} {cs : List Value} {x : DataW H × List MemPlace} (h : DataW.trod enc P W 0 (fun _ => true) true n tS cs = some x) (hw : wok (x.1.weights P tS)) : ∃ s : Str, cs = [str s] ∧ s.length ≤ 140737488351232 := by
  obtain ⟨s, h1, h2, _⟩ := DataW.trod_string X.s h
  rw [h2] at hw
  simp [wok, DataW.weights, reachBytes] at hw
  refine ⟨s.data.toList, by rw [h1]; rfl, by have := of_decide_eq_true hw; simpa using this⟩
theorem lv_ {n : Nat} {cs : List Value} {x : DataW H × List MemPlace} (h : DataW.trod enc P W 0 (fun _ => true) true n tSs cs = some x) (hw : wok (x.1.weights P tSs)) :
    ∃ (l : List Str) (ad : Option Addr) (cap : Nat), cs = [.slice ad l.length cap] ∧ bq_ (vw W) ad (l.flatMap cn_) ∧ (∀ s ∈ l, s.length ≤ 140737488351232) ∧ l.length ≤ cap ∧ cap ≤ 8796093021952 := by
  obtain ⟨l, ad, cap, e, hrow, hq, hlc, hcap⟩ := lx_ cn_ 1 aM_ (by decide) (fun s => s.length ≤ 140737488351232) X.ss X.cs1 (fun m' _ cs' y hy hwy => by
    obtain ⟨s, g1, g2⟩ := str_of X hy hwy
    exact ⟨s, g1, g2⟩) h hw
  rw [X.bs] at hcap; simp only [reachBytes] at hcap
  exact ⟨l, ad, cap, e, hrow, hq, hlc, by omega⟩
end
end Go.Vs
namespace Go.Vs
open Go Go.Sx Go.ChangeShapes Go.WideShapes Go.ChangeAt Go.RowKit
section
variable {H : Type} {enc : TypeId × Value → H} {P : Program} {w : World}
mutual
def dv_ {H : Type} : DataW H → List Value
  | .lit (.int k n) => [.int k n]
  | .lit (.bool b) => [.bool b]
  | .agg ps => fA_ ps
  | _ => []
def fA_ {H : Type} : List (DataW H) → List Value
  | [] => []
  | d :: r => dv_ d ++ fA_ r
end
def eC_ (P : Program) : Nat → TypeId → Bool
  | 0, _ => false
  | n + 1, t => match P.underlying t with
    | some .bool => true
    | some (.int _) => true
    | some (.struct fs) => fs.toList.all fun f => eC_ P n f.type
    | some (.array _ e) => eC_ P n e
    | _ => false
theorem fi_ : ∀ l : List (DataW H), fA_ l = l.flatMap dv_
  | [] => by simp [fA_]
  | d :: r => by simp only [fA_, fi_ r, List.flatMap_cons]
theorem tile : ∀ (ls : List Nat) (cs : List Value) (g : List (List Value)), cs.length = ls.sum → g.length = ls.length → (∀ j n, ls[j]? = some n → some ((cs.drop (ls.take j).sum).take n) = g[j]?) → cs = g.flatten
  | [], cs, g, h, hg, _ => by
    simp only [List.sum_nil] at h
    have h1 := List.eq_nil_of_length_eq_zero h
    have h2 : g = [] := List.eq_nil_of_length_eq_zero hg
    simp [h1, h2]
  | n :: ls, cs, [], h, hg, hp => by simp at hg
  | n :: ls, cs, x :: g, h, hg, hp => by
    have h0 := hp 0 n rfl
    simp only [List.take_zero, List.sum_nil, List.drop_zero, List.getElem?_cons_zero, Option.some.injEq] at h0
    have ih := tile ls (cs.drop n) g (by rw [List.length_drop, h]; simp) (by simpa using hg) (fun j m hj => by
      have := hp (j + 1) m hj
      simp only [List.take_succ_cons, List.sum_cons, List.getElem?_cons_succ] at this
      rw [← this, List.drop_drop])
    rw [List.flatten_cons, ← ih, ← h0, List.take_append_drop]
theorem kO_ {T : TypeId → Prop} {held : Bool} (K : Kids P T) : ∀ (n m : Nat) (t : TypeId) (cs : List Value) (x : DataW H × List MemPlace), T t → eC_ P m t = true → DataW.trod enc P w 0 (fun _ => true) held n t cs = some x → cs = dv_ x.1 := by
  intro n
  induction n with
  | zero => intro m t cs x _ _ h; simp [DataW.trod] at h
  | succ n ih =>
    intro m t cs x hT hb h
    cases m with
    | zero => simp [eC_] at hb
    | succ m =>
    cases hu : P.underlying t with
    | none => simp [eC_, hu] at hb
    | some d =>
      cases d with
      | bool => obtain ⟨b, rfl, rfl⟩ := DataW.trod_bool hu h; simp [dv_]
      | int k => obtain ⟨b, rfl, rfl, _⟩ := DataW.trod_int hu h; simp [dv_]
      | struct fs =>
        obtain ⟨xs, m', hn, rfl, hl, hlen, hf⟩ := DataW.trod_struct hu h
        obtain rfl : m' = n := by omega
        obtain ⟨k1, k2, k3⟩ := K.struct hT hu
        simp only [eC_, hu] at hb
        simp only [dv_]
        rw [fi_, List.flatMap_def, List.map_map]
        refine tile (fs.toList.map fun f => P.cellsOf f.type) cs _ (by rw [hl, k2]) (by simp [hlen]) fun j q hq => ?_
        rw [List.getElem?_map, Option.map_eq_some_iff] at hq
        obtain ⟨f, hf', rfl⟩ := hq
        have h1 := hf j f (by simpa using hf')
        have h2 := k3 j f hf'
        have hj : j < xs.length := by rw [hlen]; have := (List.getElem?_eq_some_iff.1 hf').1; simpa using this
        rw [List.getElem?_eq_getElem hj] at h1
        have h3 := ih m f.type _ _ (k1 f (List.mem_of_getElem? hf')) (List.all_eq_true.1 hb f (List.mem_of_getElem? hf')) h1
        rw [List.getElem?_map, List.getElem?_eq_getElem hj, ← List.map_take, ← h2, h3]
        rfl
      | array len e =>
        obtain ⟨xs, m', hn, rfl, hl, hlen, hf⟩ := DataW.trod_array hu h
        obtain rfl : m' = n := by omega
        obtain ⟨k1, k2⟩ := K.array hT hu
        simp only [eC_, hu] at hb
        simp only [dv_]
        rw [fi_, List.flatMap_def, List.map_map]
        refine tile (List.replicate len (P.cellsOf e)) cs _ (by rw [hl, k2]; simp) (by simp [hlen]) fun j q hq => ?_
        rw [List.getElem?_replicate] at hq
        split at hq
        · rename_i hj
          simp only [Option.some.injEq] at hq
          subst hq
          have h1 := hf j hj
          have hjx : j < xs.length := by omega
          rw [List.getElem?_eq_getElem hjx] at h1
          have h3 := ih m e _ _ k1 hb h1
          rw [List.getElem?_map, List.getElem?_eq_getElem hjx, List.take_replicate, List.sum_replicate_nat, Nat.min_eq_left (by omega), h3]
          rfl
        · cases hq
      | _ => simp [eC_, hu] at hb
end
section
variable {H : Type} {enc : TypeId × Value → H} {P : Program} {W W' : World}
theorem fe_ : ∀ {ts : List TypeId} {vs : List Value} {ds : List (DataW H)} {ps : List MemPlace} {sp : Nat → Bool}, DataW.TrodAll enc P W 0 sp true ts vs ds ps → (∀ p ∈ ps, W.sameAt W' p) → DataW.TrodAll enc P W' 0 sp true ts vs ds ps
  | [], [], [], _, _, h, _ => h
  | _ :: _, _ :: _, _ :: _, _, _, ⟨p, q, ⟨n, h1⟩, h2, e⟩, hs => ⟨p, q, ⟨n, DataW.trod_carry n _ _ _ h1 (fun x hx => hs x (by rw [e]; exact List.mem_append_left _ hx))⟩, fe_ h2 (fun x hx => hs x (by rw [e]; exact List.mem_append_right _ hx)), e⟩
theorem kW_ {T : TypeId → Prop} (K : Kids P T) (hz : ∀ t e, T t → P.underlying t = some (.slice e) → 0 < P.cellsOf e) {f : Func} {s : ChangeSpec} {args : Array Value} {ds : List (DataW H)} {before : List MemPlace} {tb : TypeId} (hts : ∀ t ∈ f.params.toList, T t) (hvars : s.vars = [])
    (hW : DataW.Whole enc P f.params.toList s.vars false W args.toList ds [] before) (hs : s.fn H (ds ++ []) = { results := [.lit (.bool true)], args := ds }) (hres : f.resultTypes = #[tb]) (hb : P.underlying tb = some .bool) {v' : Vw} (hto : (vw W).to [] v' []) :
    s.post enc P f false true false false W args (.bool true) v'.w := by
  have hW' := hW
  obtain ⟨p, q, hA, hV, hp, _, _⟩ := hW
  have hq : q = [] := by rw [hvars] at hV; exact hV
  subst hq
  simp only [List.append_nil] at hp
  subst hp
  have hblk : ∀ b, b < W.heap.size → v'.w.heap[b]? = W.heap[b]? := fun b hb => hto.block b hb (by simp)
  have hsame : ∀ x ∈ before, W.sameAt v'.w x := fun x hx => by
    have hlt := DataW.TrodAll.lt hA x hx
    cases x with
    | cell b off => exact World.cell?_of_block (hblk b hlt)
    | map b => exact hblk b hlt
  have hA' := fe_ hA hsame
  have hA'' := DataW.TrodAll.respare K hz (spare' := fun b => decide (b < W.heap.size)) hts hA' (fun x hx => by simpa using DataW.TrodAll.lt hA x hx)
  refine ⟨ds, [], before, [], before, [], hW', ?_, ?_, ?_, ⟨hto.os, hto.output, fun i hi => ?_⟩, fun h => by cases h⟩
  · rw [hs, hres]; exact trodAll_mk1 (shut_bool hb true)
  · rw [hs]; exact hA''
  · rw [hs, hvars]; rfl
  · rw [hblk i hi]
    have hsome : ∃ o, W.heap[i]? = some o := ⟨_, Array.getElem?_eq_getElem hi⟩
    obtain ⟨o, ho⟩ := hsome
    rw [ho]
    cases o <;> simp
section
variable {tI tB tS tSs tC tCs tA tAs tP tPs : TypeId} (X : Tys P tI tB tS tSs tC tCs tA tAs tP tPs) {base : Nat} {v : Value} {d : DataW H} {ps : List MemPlace}
include X
theorem ll_ (hval : Value.okWide P W .any base tSs v) (h : DataW.Trod enc P W 0 (fun _ => true) true tSs v d ps) (hw : wok (d.weights P tSs)) :
    ∃ (l : List Str) (ad : Option Addr) (cap : Nat), v = .slice ad l.length cap ∧ bq_ (vw W) ad (l.flatMap cn_) ∧ (∀ s ∈ l, s.length ≤ 140737488351232) ∧ l.length ≤ cap ∧ cap ≤ 8796093021952 := by
  obtain ⟨a, len, cap, rfl⟩ := okWide_slice X.ss hval
  obtain ⟨n, hn⟩ := h
  obtain ⟨l, ad, cap', e, h1⟩ := lv_ X hn hw
  simp only [Value.cells, List.cons.injEq, and_true] at e
  exact ⟨l, ad, cap', e, h1⟩
theorem lO_ (hval : Value.okWide P W .any base tS v) (h : DataW.Trod enc P W 0 (fun _ => true) true tS v d ps) (hw : wok (d.weights P tS)) : ∃ s : Str, v = str s ∧ s.length ≤ 140737488351232 := by
  obtain ⟨s0, rfl⟩ := okWide_string X.s hval
  obtain ⟨n, hn⟩ := h
  obtain ⟨s, e, h1⟩ := str_of X hn hw
  simp only [Value.cells, List.cons.injEq, and_true] at e
  exact ⟨s, e, h1⟩
end
theorem fv_ {T : TypeId → Prop} (K : Kids P T) {name : String} {d : DataW Unit} {laid : List (String × DataW Unit)} {W : World} (h : laidMet P laid W) (hm : (name, d) ∈ laid) {g : Nat} {t : TypeId} (hg : P.globalNamed name = some g) (ht' : (P.globals[g]?).map (·.type) = some t) (hT : T t) {m : Nat} (hb : eC_ P m t = true) :
    ∃ T' fz, W.heap[g]? = some (.cells (dv_ d).toArray T' fz) := by
  obtain ⟨ps, hl, _, _⟩ := h
  have key : ∀ (l : List (String × DataW Unit)) (ps : List MemPlace), DataW.LaidVars P W l ps → (name, d) ∈ l → ∃ g t cs n p, P.globalNamed name = some g ∧ (P.globals[g]?).map (·.type) = some t ∧ W.var? P name = some cs ∧ DataW.trod (fun _ => ()) P W 0 (fun _ => true) false n t cs.toList = some (d, p) := by
    intro l
    induction l with
    | nil => intro ps _ h; cases h
    | cons x r ih =>
      intro ps h hm
      obtain ⟨n', d'⟩ := x
      obtain ⟨g, t, cs, fuel, p, q, h1, h2, h3, h4, h5, _⟩ := h
      rcases List.mem_cons.1 hm with e | hm
      · cases e; exact ⟨g, t, cs, fuel, p, h1, h2, h3, h4⟩
      · exact ih q h5 hm
  obtain ⟨g', t', cs, n, p, h1, h2, h3, h4⟩ := key laid ps hl hm
  obtain rfl : g' = g := Option.some.inj (h1.symm.trans hg)
  obtain rfl : t' = t := Option.some.inj (h2.symm.trans ht')
  have e := kO_ K n m t' cs.toList _ hT hb h4
  simp only [World.var?, hg, Option.bind_some] at h3
  split at h3
  · rename_i c T' fz hc
    simp only [Option.some.injEq] at h3
    subst h3
    exact ⟨T', fz, by rw [hc, ← e]⟩
  · cases h3
end
end Go.Vs
namespace Go.Proofs.YtoafjmalfclpoaaGreatDoor
open Go Go.Sx Go.Proofs
attribute [local irreducible] Code.wp wpList wpAnyH
open Go.Vs Go.ChangeShapes Go.WideShapes Go.ChangeAt Go.RowKit
theorem own : ownKnob Tryz.prog.godebug = none := by kernel_rfl
def eq_ : List (String × DataW Unit) := [("math/bits.deBruijn32tab", Rows.laid_math_bits_deBruijn32tab), ("math/bits.deBruijn64tab", Rows.laid_math_bits_deBruijn64tab), ("internal/strconv.uint64pow10", Rows.laid_internal_strconv_uint64pow10), ("unicode/utf8.acceptRanges", Rows.laid_unicode_utf8_acceptRanges), ("veilstone/terms.needs", Rows.laid_veilstone_terms_needs), ("veilstone/terms.uses", Rows.laid_veilstone_terms_uses), ("veilstone/normal.uses", Rows.laid_veilstone_normal_uses), ("unicode/utf8.first", Rows.laid_unicode_utf8_first)]
theorem kX_ : Kids Tryz.prog (· < Tryz.prog.types.size) := kids_rows (by kernel_rfl) (by kernel_rfl)
theorem full : ∀ t e, t < Tryz.prog.types.size → Tryz.prog.underlying t = some (.slice e) → 0 < Tryz.prog.cellsOf e := slices_full_of _ (by kernel_rfl)
theorem gI_ : Tryz.prog.types.size = 240 := by kernel_rfl
theorem tysX : Tys Tryz.prog 3 4 9 39 38 36 41 22 31 25 where
  i := Q_
  b := Tryz.underlying4
  s := be_
  ss := Tryz.underlying39
  c := ⟨_, Tryz.underlying38, rfl⟩
  cs := Tryz.underlying36
  a := ⟨_, Tryz.underlying41, rfl⟩
  axs := Tryz.underlying22
  p := ⟨_, eN_, rfl⟩
  ps := Tryz.underlying25
  ci := by kernel_rfl
  cb := by kernel_rfl
  cs1 := by kernel_rfl
  css := by kernel_rfl
  cc := by kernel_rfl
  ccs := by kernel_rfl
  ca := by kernel_rfl
  cp := by kernel_rfl
  bs := by kernel_rfl
  bc := by kernel_rfl
  ba := by kernel_rfl
  bp := by kernel_rfl
theorem ga_ {W : World} (h : laidMetH Tryz.prog eq_ W) : ∃ T fz, W.heap[2]? = some (.cells (dv_ (H := Unit) Rows.laid_veilstone_terms_needs).toArray T fz) := by
  rw [MakeChecks.laidMetH_plain _ _ _ (by kernel_rfl)] at h
  exact fv_ kX_ (name := "veilstone/terms.needs") h (by simp [eq_]) (g := 2) (t := 160) (by kernel_rfl) (by kernel_rfl) (by rw [gI_]; decide) (m := 4) (by kernel_rfl)
theorem gp_ {W : World} (h : laidMetH Tryz.prog eq_ W) : ∃ T fz, W.heap[0]? = some (.cells (dv_ (H := Unit) Rows.laid_veilstone_terms_uses).toArray T fz) := by
  rw [MakeChecks.laidMetH_plain _ _ _ (by kernel_rfl)] at h
  exact fv_ kX_ (name := "veilstone/terms.uses") h (by simp [eq_]) (g := 0) (t := 88) (by kernel_rfl) (by kernel_rfl) (by rw [gI_]; decide) (m := 4) (by kernel_rfl)
theorem gb_ {W : World} (h : laidMetH Tryz.prog eq_ W) : ∃ T fz, W.heap[1]? = some (.cells (dv_ (H := Unit) Rows.laid_veilstone_normal_uses).toArray T fz) := by
  rw [MakeChecks.laidMetH_plain _ _ _ (by kernel_rfl)] at h
  exact fv_ kX_ (name := "veilstone/normal.uses") h (by simp [eq_]) (g := 1) (t := 112) (by kernel_rfl) (by kernel_rfl) (by rw [gI_]; decide) (m := 4) (by kernel_rfl)
theorem ek_ {W : World} (h : laidMetH Tryz.prog eq_ W) : ∃ T fz, W.heap[4]? = some (.cells (dv_ (H := Unit) Rows.laid_internal_strconv_uint64pow10).toArray T fz) := by
  rw [MakeChecks.laidMetH_plain _ _ _ (by kernel_rfl)] at h
  exact fv_ kX_ (name := "internal/strconv.uint64pow10") h (by simp [eq_]) (g := 4) (t := 219) (by kernel_rfl) (by kernel_rfl) (by rw [gI_]; decide) (m := 4) (by kernel_rfl)
theorem hv_ {W : World} {g : Nat} {l : List Value} {d : List Value} (h : ∃ T fz, W.heap[g]? = some (.cells l.toArray T fz)) (e : l = d) : bq_ (vw W) (some ⟨g, 0, none⟩) d := by
  obtain ⟨T, fz, h⟩ := h
  subst e
  exact .inr ⟨g, 0, _, T, fz, rfl, (Array.getElem?_eq_some_iff.1 h).1, h, fun j x hj => by rw [Nat.zero_add]; simpa using hj⟩
theorem lt_ {W : World} (h : laidMetH Tryz.prog eq_ W) : bH_.p (vw W) := by
  refine ⟨hv_ (ga_ h) (by kernel_rfl), hv_ (gp_ h) (by kernel_rfl), hv_ (gb_ h) (by kernel_rfl), ?_⟩
  obtain ⟨T, fz, h2⟩ := ek_ h
  refine ⟨trivial, (Array.getElem?_eq_some_iff.1 h2).1, T, fz, ?_⟩
  rw [show (Lib.pow10Tab.map fun z => Value.int .u64 z) = dv_ (H := Unit) Rows.laid_internal_strconv_uint64pow10 by kernel_rfl]
  exact h2
end Go.Proofs.YtoafjmalfclpoaaGreatDoor
namespace Go.Vs
open Go Go.Sx
theorem hp_ {s : Str} (h : eM_ s = true) : ∃ c t, s = c :: t ∧ dJ_ c = true ∧ fu_ s = true := by
  cases s with
  | nil => simp [eM_] at h
  | cons c t =>
    simp only [eM_, Bool.and_eq_true] at h
    exact ⟨c, t, rfl, h.1.1.2, h.1.2⟩
theorem go_ {s : Str} (h : fu_ s = true) : ∀ c ∈ s, dH_ c = true := fun c hc => List.all_eq_true.1 h c hc
theorem ke_ {c : UInt8} {s : Str} {k : Nat} (h : ixS c s = some k) : s = s.take k ++ c :: s.drop (k + 1) := by
  induction s generalizing k with
  | nil => simp [ixS] at h
  | cons b s ih =>
    simp only [ixS] at h
    split at h
    · rename_i hb
      simp only [Option.some.injEq] at h
      subst h; subst hb; simp
    · cases hx : ixS c s with
      | none => rw [hx] at h; simp at h
      | some j =>
        rw [hx] at h
        simp only [Option.map_some, Option.some.injEq] at h
        subst h
        simp only [List.take_succ_cons, List.drop_succ_cons, List.cons_append]
        rw [← ih hx]
theorem jW_ {s : Str} (h : bF_ s = true) : ∀ c ∈ s, dH_ c = true ∨ c = 58 := by
  unfold bF_ at h
  simp only [Bool.and_eq_true] at h
  cases hx : ixS 58 s with
  | none => rw [hx] at h; obtain ⟨_, _, _, _, h3⟩ := hp_ h.2; exact fun c hc => .inl (go_ h3 c hc)
  | some k =>
    rw [hx] at h
    simp only [Bool.and_eq_true] at h
    obtain ⟨_, _, _, _, h3⟩ := hp_ h.2.1
    obtain ⟨_, _, _, _, h4⟩ := hp_ h.2.2
    intro c hc
    rw [ke_ hx] at hc
    rcases List.mem_append.1 hc with hc | hc
    · exact .inl (go_ h3 c hc)
    · rcases List.mem_cons.1 hc with rfl | hc
      · exact .inr rfl
      · exact .inl (go_ h4 c hc)
theorem eK_ {s : Str} (h : bF_ s = true) : bb_ s = true := by simp [bb_, h]
namespace Con
end Con
end Go.Vs
namespace Go.Vs
open Go Go.Sx
section
variable {f : Int} (h0 : -1 ≤ f) (h1 : f < 1024) {a b c r s t : Str} {lo hi : Int}
include h0 h1
end
theorem gz_ {s : Str} (h : bF_ s = true) : s.length ≤ 24 := Con.plain_len h
namespace Con
section
variable {f : Int} (h0 : -1 ≤ f) (h1 : f < 1024)
include h0 h1
end
end Con
namespace Ax
section
variable {f : Int} (h0 : -1 ≤ f) (h1 : f < 1024)
include h0 h1
end
end Ax
namespace Con
end Con
def kj_ : Nat → List Ax → List Pc
  | _, [] => []
  | i, x :: l => x.pieces (i : Int) ++ kj_ (i + 1) l
theorem hk_ : ∀ (l : List Ax) (i : Nat) (p : List Pc), (∀ x ∈ l, x.check = 0) → p.length + 1000 * l.length ≤ 16384 → ef_ i l p = some (p ++ kj_ i l)
  | [], i, p, _, _ => by simp [ef_, kj_]
  | x :: l, i, p, h, hl => by
    have h1 := gA_ (i : Int) (Ax.good_of (h x (by simp)))
    simp only [List.length_cons] at hl
    simp only [ef_, kj_]
    rw [if_neg (by simp; omega), hk_ l (i + 1) _ (fun y hy => h y (by simp [hy])) (by simp; omega), List.append_assoc]
theorem iZ_ {l : List Ax} (hl : l.length ≤ 12) (h : ∀ x ∈ l, x.check = 0) : aO_ l = (kj_ 0 l, 0) := by
  unfold aO_
  rw [if_neg (by omega), if_neg (by simp [dC_ h]), hk_ l 0 [] h (by simp; omega)]
  simp
theorem im_ {l : List Ax} (hl : l.length ≤ 12) (h : cl_ l ≠ 0) : aO_ l = ([], cl_ l) := by
  unfold aO_
  rw [if_neg (by omega), if_pos h]
end Go.Vs
namespace Go.Vs
open Go Go.Sx
section
variable {f : Int} {R : List Pc → List Pc → Prop} (hr : ∀ l, R l l) (ht : ∀ {a b c}, R a b → R b c → R a c) (hi : ∀ l p, R l (ins f l p))
include hr ht hi
end
structure Gr (a b : List Pc) : Prop where
  nodup : a.Nodup → b.Nodup
  sub : ∀ q ∈ a, q ∈ b
theorem Gr.refl (l : List Pc) : Gr l l := ⟨id, fun _ h => h⟩
theorem Gr.trans {a b c : List Pc} (h : Gr a b) (k : Gr b c) : Gr a c := ⟨fun q => k.nodup (h.nodup q), fun q hq => k.sub q (h.sub q hq)⟩
theorem Gr.ins (f : Int) (l : List Pc) (p : Pc) : Gr l (ins f l p) := by
  unfold Vs.ins
  split
  · exact Gr.refl l
  · rename_i h
    refine ⟨fun hn => ?_, fun q hq => List.mem_append_left _ hq⟩
    rw [List.nodup_append]
    exact ⟨hn, by simp, fun a ha b hb => by simp only [List.mem_singleton] at hb; subst hb; rintro rfl; exact h ha⟩
theorem il_ (x : Ax) : aO_ [x] = if x.check = 0 then (x.pieces 0, 0) else ([], x.check) := by
  by_cases hc : x.check = 0
  · rw [if_pos hc]
    have := iZ_ (l := [x]) (by simp) (by simpa using hc)
    rw [this]
    simp [kj_]
  · rw [if_neg hc, im_ (by simp) (by simp [cl_, hc])]
    simp [cl_, hc]
end Go.Vs
namespace Go.Vs
open Go Go.Sx
def eF_ (a b : Str) : Fc := ⟨1, a, b, [], 0, 0⟩
def et_ (a r b : Str) : Fc := ⟨2, a, b, r, 0, 0⟩
def dY_ (a r : Str) (lo hi : Int) : Fc := ⟨3, a, [], r, lo, hi⟩
inductive One (p : List Pc) (A : List Str) (S : Fc → Prop) (M : Fc → Fc → Prop) : Fc → Prop
  | r1 {a : Str} (h : a ∈ A) : One p A S M (eF_ a a)
  | r2 {a : Str} (h : a ∈ A) : One p A S M (eF_ a [42])
  | r10 {a : Str} {x : Pc} (hx : x ∈ p) (hk : x.kind = 7) (h : a ∈ A) : One p A S M (et_ a x.r a)
  | r3 {a : Str} {x : Pc} (hx : x ∈ p) (hk : x.kind = 1) (h : S (eF_ a x.a)) : One p A S M (eF_ a x.c)
  | r4 {a : Str} {x : Pc} (hx : x ∈ p) (hk : x.kind = 2) (h : S (eF_ a x.a)) (h' : S (eF_ a x.b)) : One p A S M (eF_ a x.c)
  | r5 {a : Str} {x : Pc} (hx : x ∈ p) (hk : x.kind = 3) (h : S (eF_ a x.a)) : One p A S M (et_ a x.r x.c)
  | r6 {a b : Str} {x : Pc} (hx : x ∈ p) (hk : x.kind = 5) (h : S (et_ a x.r b)) : One p A S M (et_ a x.t b)
  | r7 {a b c : Str} {x : Pc} (hx : x ∈ p) (hk : x.kind = 6) (h : S (et_ a x.r b)) (h' : S (et_ b x.s c)) : One p A S M (et_ a x.t c)
  | r8 {a b : Str} {x : Pc} (hx : x ∈ p) (hk : x.kind = 4) (h : S (et_ a x.r b)) (h' : S (eF_ b x.a)) : One p A S M (eF_ a x.c)
  | r9 {a r b : Str} (h : S (et_ a r b)) (h' : S (eF_ b [33])) : One p A S M (eF_ a [33])
  | r11 {a : Str} {x : Pc} (hx : x ∈ p) (hk : x.kind = 8) (h : S (eF_ a x.a)) : One p A S M (dY_ a x.r x.lo x.hi)
  | r12 {a r : Str} {lo hi lo' hi' : Int} (h : S (dY_ a r lo hi)) (h' : S (dY_ a r lo' hi')) (hm : M (dY_ a r lo hi) (dY_ a r lo' hi')) (hl : max lo lo' ≤ min hi hi') : One p A S M (dY_ a r (max lo lo') (min hi hi'))
  | r13 {a r : Str} {lo hi lo' hi' : Int} (h : S (dY_ a r lo hi)) (h' : S (dY_ a r lo' hi')) (hm : M (dY_ a r lo hi) (dY_ a r lo' hi')) (hl : min hi hi' < max lo lo') : One p A S M (eF_ a [33])
  | r14 {a : Str} {lo hi : Int} {x : Pc} (hx : x ∈ p) (hk : x.kind = 9) (h : S (dY_ a x.r lo hi)) (h1 : x.lo ≤ lo) (h2 : hi ≤ x.hi) : One p A S M (eF_ a x.c)
abbrev One' (p : List Pc) (A : List Str) (S : Fc → Prop) : Fc → Prop := One p A S (fun _ _ => True)
theorem One.mono {p p' : List Pc} {A A' : List Str} {S S' : Fc → Prop} {M M' : Fc → Fc → Prop} (hp : ∀ x ∈ p, ∃ y ∈ p', ∃ n, { y with frm := n } = x) (hA : ∀ a ∈ A, a ∈ A') (hS : ∀ y, S y → S' y) (hM : ∀ x y, M x y → M' x y) {y : Fc} (h : One p A S M y) : One p' A' S' M' y := by
  cases h with
  | r1 h => exact .r1 (hA _ h)
  | r2 h => exact .r2 (hA _ h)
  | r10 hx hk h => obtain ⟨z, hz, n, rfl⟩ := hp _ hx; exact One.r10 (x := z) hz hk (hA _ h)
  | r3 hx hk h => obtain ⟨z, hz, n, rfl⟩ := hp _ hx; exact One.r3 (x := z) hz hk (hS _ h)
  | r4 hx hk h h' => obtain ⟨z, hz, n, rfl⟩ := hp _ hx; exact One.r4 (x := z) hz hk (hS _ h) (hS _ h')
  | r5 hx hk h => obtain ⟨z, hz, n, rfl⟩ := hp _ hx; exact One.r5 (x := z) hz hk (hS _ h)
  | r6 hx hk h => obtain ⟨z, hz, n, rfl⟩ := hp _ hx; exact One.r6 (x := z) hz hk (hS _ h)
  | r7 hx hk h h' => obtain ⟨z, hz, n, rfl⟩ := hp _ hx; exact One.r7 (x := z) hz hk (hS _ h) (hS _ h')
  | r8 hx hk h h' => obtain ⟨z, hz, n, rfl⟩ := hp _ hx; exact One.r8 (x := z) hz hk (hS _ h) (hS _ h')
  | r9 h h' => exact .r9 (hS _ h) (hS _ h')
  | r11 hx hk h => obtain ⟨z, hz, n, rfl⟩ := hp _ hx; exact One.r11 (x := z) hz hk (hS _ h)
  | r12 h h' hm hl => exact .r12 (hS _ h) (hS _ h') (hM _ _ hm) hl
  | r13 h h' hm hl => exact .r13 (hS _ h) (hS _ h') (hM _ _ hm) hl
  | r14 hx hk h h1 h2 => obtain ⟨z, hz, n, rfl⟩ := hp _ hx; exact One.r14 (x := z) hz hk (hS _ h) h1 h2
def Der (p : List Pc) (A : List Str) (y : Fc) : Prop := ∀ T : Fc → Prop, (∀ y, One' p A T y → T y) → T y
theorem Der.step {p : List Pc} {A : List Str} {y : Fc} (h : One' p A (Der p A) y) : Der p A y :=
  fun T hT => hT y (h.mono (fun x hx => ⟨x, hx, x.frm, rfl⟩) (fun _ h => h) (fun z hz => hz T hT) (fun _ _ h => h))
theorem Der.mono {p p' : List Pc} {A A' : List Str} (hp : ∀ x ∈ p, ∃ y ∈ p', ∃ n, { y with frm := n } = x) (hA : ∀ a ∈ A, a ∈ A') {y : Fc} (h : Der p A y) : Der p' A' y :=
  h _ fun _ hz => Der.step (hz.mono hp hA (fun _ h => h) (fun _ _ h => h))
theorem Der.least {p : List Pc} {A : List Str} {T : Fc → Prop} (hT : ∀ y, One' p A T y → T y) {y : Fc} (h : Der p A y) : T y := h T hT
structure Ky where
  kind : Int
  role : Str
  atom : Str
deriving DecidableEq
abbrev lP_ := Str × Str
def lat {K D : Type} [DecidableEq K] (l : List (K × D)) (k : K) : List D := (l.filter fun e => decide (e.1 = k)).map (·.2)
theorem gl_ {K D : Type} [DecidableEq K] {l : List (K × D)} {k : K} {d : D} : d ∈ lat l k ↔ (k, d) ∈ l := by
  unfold lat
  simp only [List.mem_map, List.mem_filter, decide_eq_true_eq]
  exact ⟨fun ⟨⟨a, b⟩, ⟨h1, h2⟩, h3⟩ => by subst h2; subst h3; exact h1, fun h => ⟨(k, d), ⟨h, rfl⟩, rfl⟩⟩
theorem gL_ {K D : Type} [DecidableEq K] (l m : List (K × D)) (k : K) : lat (l ++ m) k = lat l k ++ lat m k := by simp [lat]
theorem eb_ {K D : Type} [DecidableEq K] (l : List (K × D)) (k : K) : (lat l k).length ≤ l.length := by
  simp only [lat, List.length_map]; exact List.length_filter_le _ _
def Pc.rok (x : Pc) : Prop := (x.kind = 4 ∨ x.kind = 5 ∨ x.kind = 6 ∨ x.kind = 9 ∨ x.kind = 3 ∨ x.kind = 7 ∨ x.kind = 8 → x.r ≠ []) ∧ (x.kind = 6 → x.s ≠ [] ∧ x.t ≠ []) ∧ (x.kind = 5 → x.t ≠ [])
structure Ix where
  above : List (Str × Str)
  under : List (Str × Str)
  frm : List (lP_ × Str)
  into : List (lP_ × Str)
  ranges : List (lP_ × Fc)
  firms : List (lP_ × Fc)
def Ix.nil : Ix := ⟨[], [], [], [], [], []⟩
def Ix.add (x : Ix) (firm : Bool) (f : Fc) : Ix :=
  if f.kind = 1 then { x with above := x.above ++ [(f.a, f.b)] }
  else if f.kind = 2 then { x with under := x.under ++ [(f.b, f.a)], frm := x.frm ++ [((f.a, f.r), f.b)], into := x.into ++ [((f.b, f.r), f.a)] }
  else if f.kind = 3 then { x with ranges := x.ranges ++ [((f.a, f.r), f)], firms := if firm then x.firms ++ [((f.a, f.r), f)] else x.firms }
  else x
section
variable (pm : List (Ky × Pc)) (x : Ix) (f : Fc)
end
section
variable (stp : Fc → List Fc → List Fc) (kof : List Fc → List Fc)
end
def Fc.form (y : Fc) : Prop := (∃ a b, y = eF_ a b) ∨ (∃ a r b, y = et_ a r b ∧ r ≠ []) ∨ (∃ a r lo hi, y = dY_ a r lo hi ∧ r ≠ [] ∧ -1099511627776 ≤ lo ∧ lo ≤ hi ∧ hi ≤ 1099511627776)
structure Pc.vok (x : Pc) : Prop where
  rok : x.rok
  num : x.kind = 8 ∨ x.kind = 9 → -1099511627776 ≤ x.lo ∧ x.lo ≤ x.hi ∧ x.hi ≤ 1099511627776
theorem dk_ (a b : Str) : (eF_ a b).form := .inl ⟨a, b, rfl⟩
theorem form2 {f : Fc} (h : f.form) (hk : f.kind = 2) : f = et_ f.a f.r f.b ∧ f.r ≠ [] := by
  rcases h with ⟨a, b, rfl⟩ | ⟨a, r, b, rfl, h⟩ | ⟨a, r, lo, hi, rfl, _⟩
  · simp [eF_] at hk
  · exact ⟨rfl, h⟩
  · simp [dY_] at hk
theorem form3 {f : Fc} (h : f.form) (hk : f.kind = 3) : f = dY_ f.a f.r f.lo f.hi ∧ f.r ≠ [] ∧ -1099511627776 ≤ f.lo ∧ f.lo ≤ f.hi ∧ f.hi ≤ 1099511627776 := by
  rcases h with ⟨a, b, rfl⟩ | ⟨a, r, b, rfl, _⟩ | ⟨a, r, lo, hi, rfl, h⟩
  · simp [eF_] at hk
  · simp [et_] at hk
  · exact ⟨rfl, h⟩
theorem One.form {p : List Pc} {A : List Str} {S : Fc → Prop} {M : Fc → Fc → Prop} (hp : ∀ x ∈ p, x.vok) (hS : ∀ y, S y → y.form) {y : Fc} (h : One p A S M y) : y.form := by
  have link_r : ∀ {a r b : Str}, S (et_ a r b) → r ≠ [] := fun h => (form2 (hS _ h) rfl).2
  have span_r : ∀ {a r : Str} {lo hi : Int}, S (dY_ a r lo hi) → r ≠ [] ∧ -1099511627776 ≤ lo ∧ lo ≤ hi ∧ hi ≤ 1099511627776 := fun h => (form3 (hS _ h) rfl).2
  cases h with
  | r1 _ => exact dk_ _ _
  | r2 _ => exact dk_ _ _
  | r10 hx hk _ => exact .inr (.inl ⟨_, _, _, rfl, (hp _ hx).rok.1 (by simp [hk])⟩)
  | r3 _ _ _ => exact dk_ _ _
  | r4 _ _ _ _ => exact dk_ _ _
  | r5 hx hk _ => exact .inr (.inl ⟨_, _, _, rfl, (hp _ hx).rok.1 (by simp [hk])⟩)
  | r6 hx hk _ => exact .inr (.inl ⟨_, _, _, rfl, (hp _ hx).rok.2.2 hk⟩)
  | r7 hx hk _ _ => exact .inr (.inl ⟨_, _, _, rfl, ((hp _ hx).rok.2.1 hk).2⟩)
  | r8 _ _ _ _ => exact dk_ _ _
  | r9 _ _ => exact dk_ _ _
  | r11 hx hk _ => exact .inr (.inr ⟨_, _, _, _, rfl, (hp _ hx).rok.1 (by simp [hk]), (hp _ hx).num (.inl hk)⟩)
  | r12 h h' _ hl => exact .inr (.inr ⟨_, _, _, _, rfl, (span_r h).1, by have := span_r h; omega, hl, by have := span_r h; omega⟩)
  | r13 _ _ _ _ => exact dk_ _ _
  | r14 _ _ _ _ _ => exact dk_ _ _
section
variable {ps : List Pc} {A : List Str} {x : Ix} {S Fm : Fc → Prop} {f : Fc} {kn : List Fc}
end
section
variable (stp : Fc → List Fc → List Fc) (kof : List Fc → List Fc) (pm : List (Ky × Pc)) (x : Ix) (f : Fc)
end
section
variable {stp : Fc → List Fc → List Fc} {kof : List Fc → List Fc} {ps : List Pc} {A : List Str} {x : Ix} {S Fm : Fc → Prop} {f : Fc}
end
end Go.Vs
