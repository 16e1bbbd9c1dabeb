/-
  Part of the proof of the law CheckerGrows over this seat: the small logic, the data, the contracts of functions (no condition).
-/
import Derived.Test.YtaffcjgphlhppaaGreatDoorQCheckerGrows10
import Derived.Test.YtaffcjgphlhppaaGreatDoorQCheckerGrows7
set_option linter.unusedVariables false
set_option linter.unusedSimpArgs false
set_option linter.unusedSectionVars false
namespace Go.Proofs.YtaffcjgphlhppaaGreatDoor
open Go Go.Sx Go.Proofs
attribute [local irreducible] Code.wp wpList wpAnyH
open Go.Vs
theorem hG_ {α β : Type} (f : α → List β) (n : Nat) (h : ∀ x, (f x).length = n) : ∀ l : List α, (l.flatMap f).length = l.length * n
  | [] => by simp
  | x :: l => by rw [List.flatMap_cons, List.length_append, h, hG_ f n h l, List.length_cons, Nat.succ_mul, Nat.add_comm]
theorem mu_ {s : Stp} (h : ek_ s = true) : (cu_ s).length ≤ 198000 := by
  obtain ⟨_, _, _, _, _, _, h7, _, h8, h9, h10⟩ := ez_.1 h
  have e : (s.frm.flatMap fun q => ay_ q 4).length = s.frm.length * 4 := hG_ _ 4 (fun q => bI_ q 4) _
  simp only [cu_, bY_, List.length_append, bI_, e]
  omega
theorem ke_ {l : List Stp} (h : ∀ s ∈ l, ek_ s = true) : ∀ i, ((l.take i).flatMap cu_).length ≤ 198000 * i
  | 0 => by simp
  | i + 1 => by
    have ih := ke_ h i
    cases hs : l[i]? with
    | none =>
      have : l.take (i + 1) = l.take i := by rw [List.take_add_one, hs]; simp
      rw [this]; omega
    | some s =>
      have q := mu_ (h s (List.mem_of_getElem? hs))
      rw [List.take_add_one, hs, Option.toList_some, List.flatMap_append, List.length_append, List.flatMap_cons, List.flatMap_nil, List.append_nil]
      omega
theorem text_len {l : List Str} (h : ∀ s ∈ l, s.length ≤ 65535) : ∀ i, ((l.take i).flatMap bY_).length ≤ 65537 * i
  | 0 => by simp
  | i + 1 => by
    have ih := text_len h i
    cases hs : l[i]? with
    | none =>
      have : l.take (i + 1) = l.take i := by rw [List.take_add_one, hs]; simp
      rw [this]; omega
    | some s =>
      have q := h s (List.mem_of_getElem? hs)
      rw [List.take_add_one, hs, Option.toList_some, List.flatMap_append, List.length_append, List.flatMap_cons, List.flatMap_nil, List.append_nil, bY_, List.length_append, bI_]
      omega
theorem oo_ (l : List Int) (i : Nat) (h : l.length ≤ 255) : ((l.take i).flatMap fun q => ay_ q 4).length ≤ 1020 := by
  rw [hG_ _ 4 (fun q => bI_ q 4), List.length_take]; omega
theorem nw_ {l : List Stp} {i : Nat} {s : Stp} {tj : List Str} {tk : List Int} (hs : l[i]? = some s) (hj : tj = [s.fact.a, s.fact.b, s.fact.r]) (hk : tk = s.frm) (A : Str) :
    ((((((((A ++ List.flatMap cu_ (List.take i l)) ++ ay_ s.rule 1) ++ ay_ s.fact.kind 1) ++ List.flatMap bY_ tj) ++ ay_ s.fact.lo 8) ++ ay_ s.fact.hi 8) ++ ay_ (s.piece + 1) 4) ++ ay_ (s.frm.length : Int) 1) ++ List.flatMap (fun q => ay_ q 4) tk = A ++ List.flatMap cu_ (List.take (i + 1) l) := by
  subst hj; subst hk
  rw [List.take_add_one, hs]
  simp [cu_, List.append_assoc]
theorem lm_ {α β : Type} {l : List α} {i : Nat} {x : α} (f : α → List β) (hx : l[i]? = some x) (A : List β) : (A ++ List.flatMap f (List.take i l)) ++ f x = A ++ List.flatMap f (List.take (i + 1) l) := by
  rw [List.take_add_one, hx]; simp
theorem nv_ (l : List Stp) (ad : Option Addr) (cap : Nat) (hll : l.length ≤ 10000000) (hfr : ∀ s ∈ l, s.frm.length ≤ 1000000) (hsf : ∀ s ∈ l, s.fact.sml) : Tri Tryz.prog 15 #[.agg #[.slice ad (List.length l) cap]] [] [aR_ ad (List.flatMap Stp.cells l), cD_ l] (fun y : {y : Value × Hp // br_ 5 1 y.1 (List.length (eA_ l).1) (List.flatMap u8C (eA_ l).1) y.2} => .tuple #[y.1.1, .int .i64 (eA_ l).2]) (fun y => y.1.2) (fun _ => []) := by
 refine T_ Tryz.func15 rfl rfl Tryz.ntmps15 rfl fun v0 => ?_
 refine g_ (c_ (aL_ rfl rfl fun b1 => ?_))
 refine a_ (e_ rfl) rfl (a_ (e_ rfl) rfl (d_ (b_ rfl (g_ (g_ (c_ (a_ (h_ aa_ rfl rfl rfl an_) rfl (a_ (m_ 0 aV_ rfl rfl rfl) rfl (a_ (aB_ ab_ rfl) rfl ?_)))))))))
 refine E_ (bx_ rfl rfl) rfl fun r1 hr1 => ?_
 refine d_ (b_ rfl ?_)
 cases r1
 ·
  replace hr1 := of_decide_eq_false hr1
  refine y_ rfl (L_ (b_ rfl (g_ (g_ (c_ (a_ (h_ aa_ rfl rfl rfl an_) rfl (a_ (m_ 0 aV_ rfl rfl rfl) rfl (a_ (aB_ ab_ rfl) rfl (a_ (f_ rfl) rfl ?_)))))))))
  refine d_ (b_ rfl (ae_ ?_))
  refine bz_ (ι := {y : Nat // y ≤ List.length l ∧ (∀ s ∈ List.take y l, ek_ s = true)}) (fun y => [(1, zp_ b1 0), (2, .slice none 0 0), (3, .int .i64 0), (18, .slice ad (List.length l) cap), (19, .int .i64 (List.length l : Int)), (20, .int .i64 (y.1 : Int))]) (fun y => ((b1, .cells #[.slice ad (List.length l) cap] 27 (0, 0)) :: [])) (fun y => [aR_ ad (List.flatMap Stp.cells l), cD_ l]) (fun y => List.length l - y.1) ⟨(0 : Nat), by simp, by simp⟩ ⟨rfl, rfl, rfl, rfl, rfl, rfl, trivial⟩ D_ (fun _ _ h => h) ?_
  rintro ⟨i, hi_i, hE0⟩
  dsimp only at hi_i hE0 ⊢
  refine g_ (c_ (E_ (au_ rfl rfl) rfl fun r2 hr2 => ?_))
  refine d_ (b_ rfl (g_ ?_))
  cases r2
  ·
   replace hr2 := of_decide_eq_false hr2
   have hE : ∀ s ∈ l, ek_ s = true := by have z := hE0; rw [List.take_of_length_le (by omega)] at z; exact z
   refine y_ rfl (bi_ rfl (b_ rfl (g_ (c_ (a_ (h_ aa_ rfl rfl rfl an_) rfl (a_ (m_ 0 aV_ rfl rfl rfl) rfl (a_ (aB_ ab_ rfl) rfl (P_ (dn_ ([] : Str) (List.length l : Int) 4 (.slice none 0 0) [] (br_.nil _ _) (by decide) (by simp only [List.length_append, bI_, List.length_nil]; omega)) rfl B_ (fun _ _ _ => by exact trivial) rfl fun ⟨⟨svn1, Hn1⟩, hn1⟩ => ?_))))))))
   dsimp only
   refine a_ (e_ rfl) rfl (d_ (b_ rfl (g_ (aZ_ (hj_ cy_) (g_ (c_ (a_ (h_ aa_ rfl rfl rfl an_) rfl (a_ (m_ 0 aV_ rfl rfl rfl) rfl (a_ (aB_ ab_ rfl) rfl ?_)))))))))
   refine a_ (f_ rfl) rfl (d_ (b_ rfl (ae_ ?_)))
   have hw1 : br_ 5 1 svn1 (List.length (ay_ (List.length l : Int) 4 ++ List.flatMap cu_ (List.take 0 l))) (List.flatMap u8C (ay_ (List.length l : Int) 4 ++ List.flatMap cu_ (List.take 0 l))) Hn1 := by have q := hn1; rw [show (([] : Str) ++ ay_ (List.length l : Int) 4) = (ay_ (List.length l : Int) 4 ++ List.flatMap cu_ (List.take 0 l)) from (by simp)] at q; exact q
   refine bz_ (ι := {y : Nat × Value × Hp // y.1 ≤ List.length l ∧ br_ 5 1 y.2.1 (List.length (ay_ (List.length l : Int) 4 ++ List.flatMap cu_ (List.take y.1 l))) (List.flatMap u8C (ay_ (List.length l : Int) 4 ++ List.flatMap cu_ (List.take y.1 l))) y.2.2}) (fun y => [(1, zp_ b1 0), (2, y.1.2.1), (3, .int .i64 0), (33, .slice ad (List.length l) cap), (34, .int .i64 (List.length l : Int)), (35, .int .i64 (y.1.1 : Int))]) (fun y => ((b1, .cells #[.slice ad (List.length l) cap] 27 (0, 0)) :: y.1.2.2)) (fun y => [aR_ ad (List.flatMap Stp.cells l), cD_ l]) (fun y => List.length l - y.1.1) ⟨((0 : Nat), svn1, Hn1), by simp, hw1⟩ ⟨rfl, rfl, rfl, rfl, rfl, rfl, trivial⟩ (N_ D_ cI_) (fun _ _ h => h) ?_
   rintro ⟨⟨i, sv_B, H_B⟩, hi_i, hr_B⟩
   dsimp only at hi_i hr_B ⊢
   have hb1 := ke_ hE i
   refine g_ (c_ (E_ (au_ rfl rfl) rfl fun r3 hr3 => ?_))
   refine d_ (b_ rfl (g_ ?_))
   cases r3
   ·
    replace hr3 := of_decide_eq_false hr3
    refine y_ rfl (bi_ rfl (b_ rfl (g_ (c_ (a_ (f_ rfl) rfl (a_ (e_ rfl) rfl (a_ (e_ rfl) rfl (d_ (b_ rfl ?_)))))))))
    refine u_ ?_
    have he : eA_ l = (lV_ l, 0) := by unfold eA_; rw [if_neg (by omega), if_pos (List.all_eq_true.2 hE)]
    have e5 : (ay_ (List.length l : Int) 4 ++ List.flatMap cu_ (List.take i l)) = lV_ l := by rw [List.take_of_length_le (by omega)]; rfl
    exact oh_ Tryz.results15 ⟨(sv_B, H_B), by rw [he, ← e5]; exact hr_B⟩ rfl rfl (by dsimp only; rw [he]) aQ_ (fun _ _ _ => trivial)
   ·
    replace hr3 := of_decide_eq_true hr3
    have hlx1 : i < List.length l := by omega
    obtain ⟨x1, hx1⟩ : ∃ e0, l[i]? = some e0 := ⟨_, List.getElem?_eq_getElem hlx1⟩
    have hmx1 : x1 ∈ l := List.mem_of_getElem? hx1
    obtain ⟨ho1, ho2, ho3, ho4, ho5, ho6, ho7, ho8, ho9, ho10, ho11⟩ := ez_.1 (hE x1 hmx1)
    have hb2 := text_len (l := [(Fc.a (Stp.fact x1)), (Fc.b (Stp.fact x1)), (Fc.r (Stp.fact x1))]) (by intro z hz; simp only [List.mem_cons, List.not_mem_nil, or_false] at hz; rcases hz with rfl | rfl | rfl <;> assumption)
    have hb3 := fun w => oo_ (Stp.frm x1) w ho7
    refine w_ rfl (L_ (b_ rfl (g_ (ae_ (g_ (c_ (a_ (ah_ ab_ as_ rfl rfl (fun v _ h => aN_ (n := 9) Stp.cells_len (by decide) (by exact h.1) hx1) (by omega) (by first | omega | (simp; done))) rfl (a_ (aM_ (ad := ad) (us := Stp.cells x1) cx_ as_ rfl (fun v _ h => by exact h.1) (Stp.cells_len _) (ak_ Stp.cells_len hx1)) rfl (ad_ bc_ rfl fun b2 => ?_)))))))))
    refine X_ 0 as_ rfl rfl rfl rfl rfl rfl (d_ (b_ rfl (g_ (c_ (a_ (h_ Q_ rfl rfl rfl k_) rfl (a_ (O_ 0 R_ k_ rfl rfl rfl) rfl (ad_ aS_ rfl fun b3 => ?_)))))))
    refine X_ 0 k_ rfl rfl rfl rfl rfl rfl (d_ (b_ rfl (g_ ?_)))
    refine cq_ ((b3, .cells #[.int .i64 (Fc.kind (Stp.fact x1)), str (Fc.a (Stp.fact x1)), str (Fc.b (Stp.fact x1)), str (Fc.r (Stp.fact x1)), .int .i64 (Fc.lo (Stp.fact x1)), .int .i64 (Fc.hi (Stp.fact x1))] 24 (0, 0)) :: ((b2, .cells #[.int .i64 (Stp.rule x1), .int .i64 (Fc.kind (Stp.fact x1)), str (Fc.a (Stp.fact x1)), str (Fc.b (Stp.fact x1)), str (Fc.r (Stp.fact x1)), .int .i64 (Fc.lo (Stp.fact x1)), .int .i64 (Fc.hi (Stp.fact x1)), .int .i64 (Stp.piece x1), .slice (Stp.ad x1) (List.length (Stp.frm x1)) (Stp.cap x1)] 36 (0, 0)) :: ((b1, .cells #[.slice ad (List.length l) cap] 27 (0, 0)) :: []))) (by kernel_rfl) ?_
    refine K_ 3 [0, 1, 2, 4, 5] (by kernel_rfl) (fun _ a b => ⟨Vw.sat.sub (a.perm (N_ D_ (N_ D_ D_))), b⟩) (j_ rfl (f_ rfl) rfl (j_ rfl (h_ Q_ rfl rfl rfl r_) rfl (j_ rfl (m_ 1 C_ rfl rfl rfl) rfl (j_ rfl (h_ o_ rfl rfl rfl r_) rfl (j_ rfl (m_ 0 C_ rfl rfl rfl) rfl (J_ (I_ 3 rfl (by kernel_rfl) (P_ (dn_ (ay_ (List.length l : Int) 4 ++ List.flatMap cu_ (List.take i l)) (Stp.rule x1) 1 sv_B H_B hr_B (by decide) (by simp only [List.length_append, bI_, List.length_nil]; omega)) rfl (H_ (H_ aQ_)) (fun _ _ _ => by exact trivial) rfl fun ⟨⟨svn2, Hn2⟩, hn2⟩ => ?_))))))))
    dsimp only
    refine d_ (q_ rfl (A_ (fun _ a b => ⟨Vw.sat.sub (a.perm (N_ (bP_ D_) (N_ (bP_ D_) cy_))), b⟩) (I_ 6 rfl (by kernel_rfl) (P_ (dn_ ((ay_ (List.length l : Int) 4 ++ List.flatMap cu_ (List.take i l)) ++ ay_ (Stp.rule x1) 1) (Fc.kind (Stp.fact x1)) 1 svn2 Hn2 hn2 (by decide) (by simp only [List.length_append, bI_, List.length_nil]; omega)) rfl dV_ (fun _ _ _ => by exact trivial) rfl fun ⟨⟨svn3, Hn3⟩, hn3⟩ => ?_))))
    dsimp only
    refine d_ (q_ rfl (A_ (fun _ a b => ⟨Vw.sat.sub (a.perm (N_ (bP_ D_) (N_ (bP_ D_) cy_))), b⟩) (K_ 0 [7] (by kernel_rfl) (fun _ a b => ⟨Vw.sat.sub (a.perm (N_ (bP_ D_) (N_ (bP_ D_) cy_))), b⟩) (j_ rfl (e_ rfl) rfl (J_ (S_ (by kernel_rfl) (b_ rfl (g_ (aZ_ (dJ_ (bP_ D_) (dJ_ (bP_ D_) (hj_ cy_))) ?_)))))))))
    refine g_ (c_ (a_ (h_ o_ rfl rfl rfl x_) rfl (a_ (m_ 0 F_ rfl rfl rfl) rfl (a_ (h_ o_ rfl rfl rfl x_) rfl (a_ (m_ 0 F_ rfl rfl rfl) rfl (a_ (h_ o_ rfl rfl rfl x_) rfl (a_ (m_ 0 F_ rfl rfl rfl) rfl (aX_ aD_ x_ Tryz.zeroValue9 rfl rfl rfl rfl rfl rfl fun b4 => ?_))))))))
    refine bC_ (List.flatMap cX_ [(Fc.a (Stp.fact x1)), (Fc.b (Stp.fact x1)), (Fc.r (Stp.fact x1))]) D_ rfl ?_
    refine a_ (aB_ aD_ rfl) rfl (a_ (f_ rfl) rfl (d_ (b_ rfl (ae_ ?_))))
    have hw2 : br_ 5 1 svn3 (List.length ((((ay_ (List.length l : Int) 4 ++ List.flatMap cu_ (List.take i l)) ++ ay_ (Stp.rule x1) 1) ++ ay_ (Fc.kind (Stp.fact x1)) 1) ++ List.flatMap bY_ (List.take 0 [(Fc.a (Stp.fact x1)), (Fc.b (Stp.fact x1)), (Fc.r (Stp.fact x1))]))) (List.flatMap u8C ((((ay_ (List.length l : Int) 4 ++ List.flatMap cu_ (List.take i l)) ++ ay_ (Stp.rule x1) 1) ++ ay_ (Fc.kind (Stp.fact x1)) 1) ++ List.flatMap bY_ (List.take 0 [(Fc.a (Stp.fact x1)), (Fc.b (Stp.fact x1)), (Fc.r (Stp.fact x1))]))) Hn3 := by have q := hn3; rw [show (((ay_ (List.length l : Int) 4 ++ List.flatMap cu_ (List.take i l)) ++ ay_ (Stp.rule x1) 1) ++ ay_ (Fc.kind (Stp.fact x1)) 1) = ((((ay_ (List.length l : Int) 4 ++ List.flatMap cu_ (List.take i l)) ++ ay_ (Stp.rule x1) 1) ++ ay_ (Fc.kind (Stp.fact x1)) 1) ++ List.flatMap bY_ (List.take 0 [(Fc.a (Stp.fact x1)), (Fc.b (Stp.fact x1)), (Fc.r (Stp.fact x1))])) from (by simp)] at q; exact q
    refine bz_ (ι := {y : Nat × Value × Hp // y.1 ≤ List.length [(Fc.a (Stp.fact x1)), (Fc.b (Stp.fact x1)), (Fc.r (Stp.fact x1))] ∧ br_ 5 1 y.2.1 (List.length ((((ay_ (List.length l : Int) 4 ++ List.flatMap cu_ (List.take i l)) ++ ay_ (Stp.rule x1) 1) ++ ay_ (Fc.kind (Stp.fact x1)) 1) ++ List.flatMap bY_ (List.take y.1 [(Fc.a (Stp.fact x1)), (Fc.b (Stp.fact x1)), (Fc.r (Stp.fact x1))]))) (List.flatMap u8C ((((ay_ (List.length l : Int) 4 ++ List.flatMap cu_ (List.take i l)) ++ ay_ (Stp.rule x1) 1) ++ ay_ (Fc.kind (Stp.fact x1)) 1) ++ List.flatMap bY_ (List.take y.1 [(Fc.a (Stp.fact x1)), (Fc.b (Stp.fact x1)), (Fc.r (Stp.fact x1))]))) y.2.2}) (fun y => [(1, zp_ b1 0), (2, y.1.2.1), (3, .int .i64 0), (33, .slice ad (List.length l) cap), (34, .int .i64 (List.length l : Int)), (35, .int .i64 (i : Int)), (7, zp_ b2 0), (8, zp_ b3 0), (54, .slice (some ⟨b4, 0, none⟩) (List.length [(Fc.a (Stp.fact x1)), (Fc.b (Stp.fact x1)), (Fc.r (Stp.fact x1))]) 3), (55, .int .i64 3), (56, .int .i64 (y.1.1 : Int))]) (fun y => ((b3, .cells #[.int .i64 (Fc.kind (Stp.fact x1)), str (Fc.a (Stp.fact x1)), str (Fc.b (Stp.fact x1)), str (Fc.r (Stp.fact x1)), .int .i64 (Fc.lo (Stp.fact x1)), .int .i64 (Fc.hi (Stp.fact x1))] 24 (0, 0)) :: ((b2, .cells #[.int .i64 (Stp.rule x1), .int .i64 (Fc.kind (Stp.fact x1)), str (Fc.a (Stp.fact x1)), str (Fc.b (Stp.fact x1)), str (Fc.r (Stp.fact x1)), .int .i64 (Fc.lo (Stp.fact x1)), .int .i64 (Fc.hi (Stp.fact x1)), .int .i64 (Stp.piece x1), .slice (Stp.ad x1) (List.length (Stp.frm x1)) (Stp.cap x1)] 36 (0, 0)) :: ((b1, .cells #[.slice ad (List.length l) cap] 27 (0, 0)) :: y.1.2.2)))) (fun y => [aR_ (some ⟨b4, 0, none⟩) (List.flatMap cX_ [(Fc.a (Stp.fact x1)), (Fc.b (Stp.fact x1)), (Fc.r (Stp.fact x1))]), aR_ ad (List.flatMap Stp.cells l), cD_ l]) (fun y => List.length [(Fc.a (Stp.fact x1)), (Fc.b (Stp.fact x1)), (Fc.r (Stp.fact x1))] - y.1.1) ⟨((0 : Nat), svn3, Hn3), by simp, hw2⟩ ⟨rfl, rfl, rfl, rfl, rfl, rfl, rfl, rfl, rfl, rfl, rfl, trivial⟩ (N_ D_ (N_ D_ (N_ D_ cI_))) (fun _ _ h => h) ?_
    rintro ⟨⟨j, sv_B, H_B⟩, hi_j, hr_B⟩
    dsimp only at hi_j hr_B ⊢
    refine g_ (c_ (E_ (au_ rfl rfl) rfl fun r4 hr4 => ?_))
    refine d_ (b_ rfl (g_ ?_))
    cases r4
    ·
     replace hr4 := of_decide_eq_false hr4
     have e3 : List.take j [(Fc.a (Stp.fact x1)), (Fc.b (Stp.fact x1)), (Fc.r (Stp.fact x1))] = [(Fc.a (Stp.fact x1)), (Fc.b (Stp.fact x1)), (Fc.r (Stp.fact x1))] := List.take_of_length_le (show 3 ≤ j by omega)
     have hb4 := hb2 j; have hj3 : j ≤ 3 := hi_j
     refine y_ rfl (bi_ rfl (b_ rfl (g_ ?_)))
     refine cq_ ((b3, .cells #[.int .i64 (Fc.kind (Stp.fact x1)), str (Fc.a (Stp.fact x1)), str (Fc.b (Stp.fact x1)), str (Fc.r (Stp.fact x1)), .int .i64 (Fc.lo (Stp.fact x1)), .int .i64 (Fc.hi (Stp.fact x1))] 24 (0, 0)) :: ((b2, .cells #[.int .i64 (Stp.rule x1), .int .i64 (Fc.kind (Stp.fact x1)), str (Fc.a (Stp.fact x1)), str (Fc.b (Stp.fact x1)), str (Fc.r (Stp.fact x1)), .int .i64 (Fc.lo (Stp.fact x1)), .int .i64 (Fc.hi (Stp.fact x1)), .int .i64 (Stp.piece x1), .slice (Stp.ad x1) (List.length (Stp.frm x1)) (Stp.cap x1)] 36 (0, 0)) :: ((b1, .cells #[.slice ad (List.length l) cap] 27 (0, 0)) :: []))) (by kernel_rfl) ?_
     refine K_ 3 [0, 1, 2, 4, 5] (by kernel_rfl) (fun _ a b => ⟨Vw.sat.sub (a.perm (N_ D_ (N_ D_ D_))), b⟩) (j_ rfl (f_ rfl) rfl (j_ rfl (h_ o_ rfl rfl rfl r_) rfl (j_ rfl (m_ 0 C_ rfl rfl rfl) rfl (j_ rfl (h_ o_ rfl rfl rfl r_) rfl (j_ rfl (m_ 0 C_ rfl rfl rfl) rfl (J_ (I_ 3 rfl (by kernel_rfl) (P_ (dn_ ((((ay_ (List.length l : Int) 4 ++ List.flatMap cu_ (List.take i l)) ++ ay_ (Stp.rule x1) 1) ++ ay_ (Fc.kind (Stp.fact x1)) 1) ++ List.flatMap bY_ (List.take j [(Fc.a (Stp.fact x1)), (Fc.b (Stp.fact x1)), (Fc.r (Stp.fact x1))])) (Fc.lo (Stp.fact x1)) 8 sv_B H_B hr_B (by decide) (by simp only [List.length_append, bI_, List.length_nil]; omega)) rfl (H_ (H_ aQ_)) (fun _ _ _ => by exact trivial) rfl fun ⟨⟨svn4, Hn4⟩, hn4⟩ => ?_))))))))
     dsimp only
     refine d_ (q_ rfl (A_ (fun _ a b => ⟨Vw.sat.sub (a.perm (N_ (bP_ D_) (N_ (bP_ D_) cy_))), b⟩) (I_ 6 rfl (by kernel_rfl) (P_ (dn_ (((((ay_ (List.length l : Int) 4 ++ List.flatMap cu_ (List.take i l)) ++ ay_ (Stp.rule x1) 1) ++ ay_ (Fc.kind (Stp.fact x1)) 1) ++ List.flatMap bY_ (List.take j [(Fc.a (Stp.fact x1)), (Fc.b (Stp.fact x1)), (Fc.r (Stp.fact x1))])) ++ ay_ (Fc.lo (Stp.fact x1)) 8) (Fc.hi (Stp.fact x1)) 8 svn4 Hn4 hn4 (by decide) (by simp only [List.length_append, bI_, List.length_nil]; omega)) rfl dV_ (fun _ _ _ => by exact trivial) rfl fun ⟨⟨svn5, Hn5⟩, hn5⟩ => ?_))))
     dsimp only
     refine d_ (q_ rfl (A_ (fun _ a b => ⟨Vw.sat.sub (a.perm (N_ (bP_ D_) (N_ (bP_ D_) cy_))), b⟩) (K_ 0 [7] (by kernel_rfl) (fun _ a b => ⟨Vw.sat.sub (a.perm (N_ (bP_ D_) (N_ (bP_ D_) cy_))), b⟩) (j_ rfl (e_ rfl) rfl (J_ (S_ (by kernel_rfl) (b_ rfl (aZ_ (dJ_ (bP_ D_) (dJ_ (bP_ D_) (hj_ cy_))) (g_ ?_)))))))))
     refine cq_ ((b3, .cells #[.int .i64 (Fc.kind (Stp.fact x1)), str (Fc.a (Stp.fact x1)), str (Fc.b (Stp.fact x1)), str (Fc.r (Stp.fact x1)), .int .i64 (Fc.lo (Stp.fact x1)), .int .i64 (Fc.hi (Stp.fact x1))] 24 (0, 0)) :: ((b2, .cells #[.int .i64 (Stp.rule x1), .int .i64 (Fc.kind (Stp.fact x1)), str (Fc.a (Stp.fact x1)), str (Fc.b (Stp.fact x1)), str (Fc.r (Stp.fact x1)), .int .i64 (Fc.lo (Stp.fact x1)), .int .i64 (Fc.hi (Stp.fact x1)), .int .i64 (Stp.piece x1), .slice (Stp.ad x1) (List.length (Stp.frm x1)) (Stp.cap x1)] 36 (0, 0)) :: ((b1, .cells #[.slice ad (List.length l) cap] 27 (0, 0)) :: []))) (by kernel_rfl) ?_
     refine K_ 3 [0, 1, 2, 3, 5, 6, 7] (by kernel_rfl) (fun _ a b => ⟨Vw.sat.sub (a.perm (N_ D_ (N_ D_ D_))), b⟩) (j_ rfl (f_ rfl) rfl (j_ rfl (h_ Q_ rfl rfl rfl r_) rfl (j_ rfl (m_ 1 C_ rfl rfl rfl) rfl (j_ rfl (ac_ rfl rfl rfl (aK_ (by omega) (by omega))) rfl (j_ rfl (h_ Q_ rfl rfl rfl bu_) rfl (j_ rfl (m_ 1 cb_ rfl rfl rfl) rfl (j_ rfl (aB_ az_ rfl) rfl (J_ (I_ 4 rfl (by kernel_rfl) ?_)))))))))
     refine P_ (dn_ ((((((ay_ (List.length l : Int) 4 ++ List.flatMap cu_ (List.take i l)) ++ ay_ (Stp.rule x1) 1) ++ ay_ (Fc.kind (Stp.fact x1)) 1) ++ List.flatMap bY_ (List.take j [(Fc.a (Stp.fact x1)), (Fc.b (Stp.fact x1)), (Fc.r (Stp.fact x1))])) ++ ay_ (Fc.lo (Stp.fact x1)) 8) ++ ay_ (Fc.hi (Stp.fact x1)) 8) ((Stp.piece x1) + 1) 4 svn5 Hn5 hn5 (by decide) (by simp only [List.length_append, bI_, List.length_nil]; omega)) rfl (H_ (H_ aQ_)) (fun _ _ _ => by exact trivial) rfl fun ⟨⟨svn6, Hn6⟩, hn6⟩ => ?_
     dsimp only
     refine d_ (q_ rfl (A_ (fun _ a b => ⟨Vw.sat.sub (a.perm (N_ (bP_ D_) (N_ (bP_ D_) cy_))), b⟩) (I_ 8 rfl (by kernel_rfl) (P_ (dn_ (((((((ay_ (List.length l : Int) 4 ++ List.flatMap cu_ (List.take i l)) ++ ay_ (Stp.rule x1) 1) ++ ay_ (Fc.kind (Stp.fact x1)) 1) ++ List.flatMap bY_ (List.take j [(Fc.a (Stp.fact x1)), (Fc.b (Stp.fact x1)), (Fc.r (Stp.fact x1))])) ++ ay_ (Fc.lo (Stp.fact x1)) 8) ++ ay_ (Fc.hi (Stp.fact x1)) 8) ++ ay_ ((Stp.piece x1) + 1) 4) (List.length (Stp.frm x1) : Int) 1 svn6 Hn6 hn6 (by decide) (by simp only [List.length_append, bI_, List.length_nil]; omega)) rfl dV_ (fun _ _ _ => by exact trivial) rfl fun ⟨⟨svn7, Hn7⟩, hn7⟩ => ?_))))
     dsimp only
     refine d_ (q_ rfl (A_ (fun _ a b => ⟨Vw.sat.sub (a.perm (N_ (bP_ D_) (N_ (bP_ D_) cy_))), b⟩) (K_ 0 [9] (by kernel_rfl) (fun _ a b => ⟨Vw.sat.sub (a.perm (N_ (bP_ D_) (N_ (bP_ D_) cy_))), b⟩) (j_ rfl (e_ rfl) rfl (J_ (S_ (by kernel_rfl) (b_ rfl (aZ_ (dJ_ (bP_ D_) (dJ_ (bP_ D_) (hj_ cy_))) (g_ ?_)))))))))
     refine c_ (a_ (h_ Q_ rfl rfl rfl bu_) rfl (a_ (m_ 1 cb_ rfl rfl rfl) rfl (a_ (aB_ az_ rfl) rfl (a_ (f_ rfl) rfl (d_ (b_ rfl (ae_ ?_)))))))
     have hw3 : br_ 5 1 svn7 (List.length (((((((((ay_ (List.length l : Int) 4 ++ List.flatMap cu_ (List.take i l)) ++ ay_ (Stp.rule x1) 1) ++ ay_ (Fc.kind (Stp.fact x1)) 1) ++ List.flatMap bY_ (List.take j [(Fc.a (Stp.fact x1)), (Fc.b (Stp.fact x1)), (Fc.r (Stp.fact x1))])) ++ ay_ (Fc.lo (Stp.fact x1)) 8) ++ ay_ (Fc.hi (Stp.fact x1)) 8) ++ ay_ ((Stp.piece x1) + 1) 4) ++ ay_ (List.length (Stp.frm x1) : Int) 1) ++ List.flatMap (fun q => ay_ q 4) (List.take 0 (Stp.frm x1)))) (List.flatMap u8C (((((((((ay_ (List.length l : Int) 4 ++ List.flatMap cu_ (List.take i l)) ++ ay_ (Stp.rule x1) 1) ++ ay_ (Fc.kind (Stp.fact x1)) 1) ++ List.flatMap bY_ (List.take j [(Fc.a (Stp.fact x1)), (Fc.b (Stp.fact x1)), (Fc.r (Stp.fact x1))])) ++ ay_ (Fc.lo (Stp.fact x1)) 8) ++ ay_ (Fc.hi (Stp.fact x1)) 8) ++ ay_ ((Stp.piece x1) + 1) 4) ++ ay_ (List.length (Stp.frm x1) : Int) 1) ++ List.flatMap (fun q => ay_ q 4) (List.take 0 (Stp.frm x1)))) Hn7 := by have q := hn7; rw [show ((((((((ay_ (List.length l : Int) 4 ++ List.flatMap cu_ (List.take i l)) ++ ay_ (Stp.rule x1) 1) ++ ay_ (Fc.kind (Stp.fact x1)) 1) ++ List.flatMap bY_ (List.take j [(Fc.a (Stp.fact x1)), (Fc.b (Stp.fact x1)), (Fc.r (Stp.fact x1))])) ++ ay_ (Fc.lo (Stp.fact x1)) 8) ++ ay_ (Fc.hi (Stp.fact x1)) 8) ++ ay_ ((Stp.piece x1) + 1) 4) ++ ay_ (List.length (Stp.frm x1) : Int) 1) = (((((((((ay_ (List.length l : Int) 4 ++ List.flatMap cu_ (List.take i l)) ++ ay_ (Stp.rule x1) 1) ++ ay_ (Fc.kind (Stp.fact x1)) 1) ++ List.flatMap bY_ (List.take j [(Fc.a (Stp.fact x1)), (Fc.b (Stp.fact x1)), (Fc.r (Stp.fact x1))])) ++ ay_ (Fc.lo (Stp.fact x1)) 8) ++ ay_ (Fc.hi (Stp.fact x1)) 8) ++ ay_ ((Stp.piece x1) + 1) 4) ++ ay_ (List.length (Stp.frm x1) : Int) 1) ++ List.flatMap (fun q => ay_ q 4) (List.take 0 (Stp.frm x1))) from (by simp)] at q; exact q
     refine bz_ (ι := {y : Nat × Value × Hp // y.1 ≤ List.length (Stp.frm x1) ∧ br_ 5 1 y.2.1 (List.length (((((((((ay_ (List.length l : Int) 4 ++ List.flatMap cu_ (List.take i l)) ++ ay_ (Stp.rule x1) 1) ++ ay_ (Fc.kind (Stp.fact x1)) 1) ++ List.flatMap bY_ (List.take j [(Fc.a (Stp.fact x1)), (Fc.b (Stp.fact x1)), (Fc.r (Stp.fact x1))])) ++ ay_ (Fc.lo (Stp.fact x1)) 8) ++ ay_ (Fc.hi (Stp.fact x1)) 8) ++ ay_ ((Stp.piece x1) + 1) 4) ++ ay_ (List.length (Stp.frm x1) : Int) 1) ++ List.flatMap (fun q => ay_ q 4) (List.take y.1 (Stp.frm x1)))) (List.flatMap u8C (((((((((ay_ (List.length l : Int) 4 ++ List.flatMap cu_ (List.take i l)) ++ ay_ (Stp.rule x1) 1) ++ ay_ (Fc.kind (Stp.fact x1)) 1) ++ List.flatMap bY_ (List.take j [(Fc.a (Stp.fact x1)), (Fc.b (Stp.fact x1)), (Fc.r (Stp.fact x1))])) ++ ay_ (Fc.lo (Stp.fact x1)) 8) ++ ay_ (Fc.hi (Stp.fact x1)) 8) ++ ay_ ((Stp.piece x1) + 1) 4) ++ ay_ (List.length (Stp.frm x1) : Int) 1) ++ List.flatMap (fun q => ay_ q 4) (List.take y.1 (Stp.frm x1)))) y.2.2}) (fun y => [(1, zp_ b1 0), (2, y.1.2.1), (3, .int .i64 0), (33, .slice ad (List.length l) cap), (34, .int .i64 (List.length l : Int)), (35, .int .i64 (i : Int)), (7, zp_ b2 0), (8, zp_ b3 0), (54, .slice (some ⟨b4, 0, none⟩) (List.length [(Fc.a (Stp.fact x1)), (Fc.b (Stp.fact x1)), (Fc.r (Stp.fact x1))]) 3), (55, .int .i64 3), (56, .int .i64 (j : Int)), (84, .slice (Stp.ad x1) (List.length (Stp.frm x1)) (Stp.cap x1)), (85, .int .i64 (List.length (Stp.frm x1) : Int)), (86, .int .i64 (y.1.1 : Int))]) (fun y => ((b3, .cells #[.int .i64 (Fc.kind (Stp.fact x1)), str (Fc.a (Stp.fact x1)), str (Fc.b (Stp.fact x1)), str (Fc.r (Stp.fact x1)), .int .i64 (Fc.lo (Stp.fact x1)), .int .i64 (Fc.hi (Stp.fact x1))] 24 (0, 0)) :: ((b2, .cells #[.int .i64 (Stp.rule x1), .int .i64 (Fc.kind (Stp.fact x1)), str (Fc.a (Stp.fact x1)), str (Fc.b (Stp.fact x1)), str (Fc.r (Stp.fact x1)), .int .i64 (Fc.lo (Stp.fact x1)), .int .i64 (Fc.hi (Stp.fact x1)), .int .i64 (Stp.piece x1), .slice (Stp.ad x1) (List.length (Stp.frm x1)) (Stp.cap x1)] 36 (0, 0)) :: ((b1, .cells #[.slice ad (List.length l) cap] 27 (0, 0)) :: y.1.2.2)))) (fun y => [aR_ (some ⟨b4, 0, none⟩) (List.flatMap cX_ [(Fc.a (Stp.fact x1)), (Fc.b (Stp.fact x1)), (Fc.r (Stp.fact x1))]), aR_ ad (List.flatMap Stp.cells l), cD_ l]) (fun y => List.length (Stp.frm x1) - y.1.1) ⟨((0 : Nat), svn7, Hn7), by simp, hw3⟩ ⟨rfl, rfl, rfl, rfl, rfl, rfl, rfl, rfl, rfl, rfl, rfl, rfl, rfl, rfl, trivial⟩ (N_ D_ (N_ D_ (N_ D_ cI_))) (fun _ _ h => h) ?_
     rintro ⟨⟨k, sv_B, H_B⟩, hi_k, hr_B⟩
     dsimp only at hi_k hr_B ⊢
     refine g_ (c_ (E_ (au_ rfl rfl) rfl fun r5 hr5 => ?_))
     refine d_ (b_ rfl (g_ ?_))
     cases r5
     ·
      replace hr5 := of_decide_eq_false hr5
      have e4 : List.take k (Stp.frm x1) = Stp.frm x1 := List.take_of_length_le (by omega)
      refine y_ rfl (bi_ rfl (b_ rfl (c_ (a_ (ac_ rfl rfl rfl (aK_ (by omega) (by omega))) rfl (a_ (f_ rfl) rfl (d_ (q_ rfl ?_)))))))
      exact aO_ ⟨(i + 1, sv_B, H_B), hlx1, (by have z := hr_B; rw [show (((((((((ay_ (List.length l : Int) 4 ++ List.flatMap cu_ (List.take i l)) ++ ay_ (Stp.rule x1) 1) ++ ay_ (Fc.kind (Stp.fact x1)) 1) ++ List.flatMap bY_ (List.take j [(Fc.a (Stp.fact x1)), (Fc.b (Stp.fact x1)), (Fc.r (Stp.fact x1))])) ++ ay_ (Fc.lo (Stp.fact x1)) 8) ++ ay_ (Fc.hi (Stp.fact x1)) 8) ++ ay_ ((Stp.piece x1) + 1) 4) ++ ay_ (List.length (Stp.frm x1) : Int) 1) ++ List.flatMap (fun q => ay_ q 4) (List.take k (Stp.frm x1))) = _ from nw_ hx1 e3 e4 (ay_ (List.length l : Int) 4)] at z; exact z)⟩ (by dsimp only; omega) ⟨rfl, rfl, rfl, rfl, rfl, rfl, trivial⟩ (N_ (H_ (H_ D_)) (H_ aQ_)) (fun _ _ h => h.2)
     ·
      replace hr5 := of_decide_eq_true hr5
      have hlx3 : k < List.length (Stp.frm x1) := by omega
      obtain ⟨x3, hx3⟩ : ∃ e0, (Stp.frm x1)[k]? = some e0 := ⟨_, List.getElem?_eq_getElem hlx3⟩
      have hmx3 : x3 ∈ (Stp.frm x1) := List.mem_of_getElem? hx3
      have hb5 := hb3 k
      refine w_ rfl (L_ (b_ rfl (g_ (ae_ (g_ (c_ (a_ (ah_ az_ r_ rfl rfl (fun v _ h => aN_ (n := 1) cS_ (by decide) (by exact (h.2.2.1 x1 hmx1)) hx3) (by omega) (by first | omega | (simp; done))) rfl (a_ (bj_ (ad := (Stp.ad x1)) C_ rfl (fun v _ h => by exact (h.2.2.1 x1 hmx1)) (ak_ cS_ hx3 0 _ rfl)) rfl (a_ (e_ rfl) rfl ?_)))))))))
      refine d_ (b_ rfl (c_ (a_ (f_ rfl) rfl (a_ (f_ rfl) rfl (P_ (dn_ (((((((((ay_ (List.length l : Int) 4 ++ List.flatMap cu_ (List.take i l)) ++ ay_ (Stp.rule x1) 1) ++ ay_ (Fc.kind (Stp.fact x1)) 1) ++ List.flatMap bY_ (List.take j [(Fc.a (Stp.fact x1)), (Fc.b (Stp.fact x1)), (Fc.r (Stp.fact x1))])) ++ ay_ (Fc.lo (Stp.fact x1)) 8) ++ ay_ (Fc.hi (Stp.fact x1)) 8) ++ ay_ ((Stp.piece x1) + 1) 4) ++ ay_ (List.length (Stp.frm x1) : Int) 1) ++ List.flatMap (fun q => ay_ q 4) (List.take k (Stp.frm x1))) x3 4 sv_B H_B hr_B (by decide) (by simp only [List.length_append, bI_, List.length_nil]; omega)) rfl (H_ (H_ aQ_)) (fun _ _ _ => by exact trivial) rfl fun ⟨⟨svn8, Hn8⟩, hn8⟩ => ?_)))))
      dsimp only
      refine a_ (e_ rfl) rfl (d_ (b_ rfl (aZ_ (dJ_ (bP_ D_) (dJ_ (bP_ D_) (hj_ cy_))) (c_ (a_ (ac_ rfl rfl rfl (aK_ (by omega) (by omega))) rfl (a_ (f_ rfl) rfl (d_ (q_ rfl ?_))))))))
      exact aO_ ⟨(k + 1, svn8, Hn8), hlx3, (by have z := hn8; rw [show ((((((((((ay_ (List.length l : Int) 4 ++ List.flatMap cu_ (List.take i l)) ++ ay_ (Stp.rule x1) 1) ++ ay_ (Fc.kind (Stp.fact x1)) 1) ++ List.flatMap bY_ (List.take j [(Fc.a (Stp.fact x1)), (Fc.b (Stp.fact x1)), (Fc.r (Stp.fact x1))])) ++ ay_ (Fc.lo (Stp.fact x1)) 8) ++ ay_ (Fc.hi (Stp.fact x1)) 8) ++ ay_ ((Stp.piece x1) + 1) 4) ++ ay_ (List.length (Stp.frm x1) : Int) 1) ++ List.flatMap (fun q => ay_ q 4) (List.take k (Stp.frm x1))) ++ ay_ x3 4) = _ from lm_ (fun q => ay_ q 4) hx3 ((((((((ay_ (List.length l : Int) 4 ++ List.flatMap cu_ (List.take i l)) ++ ay_ (Stp.rule x1) 1) ++ ay_ (Fc.kind (Stp.fact x1)) 1) ++ List.flatMap bY_ (List.take j [(Fc.a (Stp.fact x1)), (Fc.b (Stp.fact x1)), (Fc.r (Stp.fact x1))])) ++ ay_ (Fc.lo (Stp.fact x1)) 8) ++ ay_ (Fc.hi (Stp.fact x1)) 8) ++ ay_ ((Stp.piece x1) + 1) 4) ++ ay_ (List.length (Stp.frm x1) : Int) 1)] at z; exact z)⟩ (by dsimp only; omega) ⟨rfl, rfl, rfl, rfl, rfl, rfl, rfl, rfl, rfl, rfl, rfl, rfl, rfl, rfl, trivial⟩ (N_ D_ (N_ D_ (N_ D_ cI_))) (fun _ _ h => h)
    ·
     replace hr4 := of_decide_eq_true hr4
     have hlx2 : j < List.length [(Fc.a (Stp.fact x1)), (Fc.b (Stp.fact x1)), (Fc.r (Stp.fact x1))] := (show j < 3 by omega)
     obtain ⟨x2, hx2⟩ : ∃ e0, [(Fc.a (Stp.fact x1)), (Fc.b (Stp.fact x1)), (Fc.r (Stp.fact x1))][j]? = some e0 := ⟨_, List.getElem?_eq_getElem hlx2⟩
     have hmx2 : x2 ∈ [(Fc.a (Stp.fact x1)), (Fc.b (Stp.fact x1)), (Fc.r (Stp.fact x1))] := List.mem_of_getElem? hx2
     have ht2 : List.length x2 ≤ 65535 := by simp only [List.mem_cons, List.not_mem_nil, or_false] at hmx2; rcases hmx2 with rfl | rfl | rfl <;> assumption
     have hb4 := hb2 j; have hj3 : j < 3 := by omega
     refine w_ rfl (L_ (b_ rfl (g_ (ae_ (g_ (c_ (a_ (ah_ aD_ x_ rfl rfl (fun v _ h => aN_ (n := 1) bZ_ (by decide) (by exact h.1) hx2) (by omega) (by first | omega | (simp; done))) rfl (a_ (bj_ (ad := (some ⟨b4, 0, none⟩)) F_ rfl (fun v _ h => by exact h.1) (ak_ bZ_ hx2 0 _ rfl)) rfl (a_ (e_ rfl) rfl ?_)))))))))
     refine d_ (b_ rfl (c_ (a_ (f_ rfl) rfl (a_ (f_ rfl) rfl (a_ (bG_ W_ rfl) rfl (P_ (dn_ ((((ay_ (List.length l : Int) 4 ++ List.flatMap cu_ (List.take i l)) ++ ay_ (Stp.rule x1) 1) ++ ay_ (Fc.kind (Stp.fact x1)) 1) ++ List.flatMap bY_ (List.take j [(Fc.a (Stp.fact x1)), (Fc.b (Stp.fact x1)), (Fc.r (Stp.fact x1))])) (x2.length : Int) 2 sv_B H_B hr_B (by decide) (by simp only [List.length_append, bI_, List.length_nil]; omega)) rfl (H_ (H_ aQ_)) (fun _ _ _ => by exact trivial) rfl fun ⟨⟨svn9, Hn9⟩, hn9⟩ => ?_))))))
     dsimp only
     refine a_ (f_ rfl) rfl (hN_ elt_by hn9 rfl rfl dV_ (by simp only [List.length_append, bI_, List.length_nil]; omega) rfl fun sv4 Hr4 hr4 => ?_)
     refine aZ_ List.perm_append_comm (a_ (e_ rfl) rfl (d_ (b_ rfl (c_ (a_ (ac_ rfl rfl rfl (aK_ (by omega) (by omega))) rfl (a_ (f_ rfl) rfl (d_ (q_ rfl ?_))))))))
     exact aO_ ⟨(j + 1, sv4, Hr4), hlx2, (by have z := hr4; rw [show ((((((ay_ (List.length l : Int) 4 ++ List.flatMap cu_ (List.take i l)) ++ ay_ (Stp.rule x1) 1) ++ ay_ (Fc.kind (Stp.fact x1)) 1) ++ List.flatMap bY_ (List.take j [(Fc.a (Stp.fact x1)), (Fc.b (Stp.fact x1)), (Fc.r (Stp.fact x1))])) ++ ay_ (x2.length : Int) 2) ++ x2) = _ from (List.append_assoc _ _ _).trans (lm_ bY_ hx2 (((ay_ (List.length l : Int) 4 ++ List.flatMap cu_ (List.take i l)) ++ ay_ (Stp.rule x1) 1) ++ ay_ (Fc.kind (Stp.fact x1)) 1))] at z; exact z)⟩ (by dsimp only; omega) ⟨rfl, rfl, rfl, rfl, rfl, rfl, rfl, rfl, rfl, rfl, rfl, trivial⟩ (N_ D_ (N_ D_ (N_ D_ cI_))) (fun _ _ h => h)
  ·
   replace hr2 := of_decide_eq_true hr2
   have hlx1 : i < List.length l := by omega
   obtain ⟨x1, hx1⟩ : ∃ e0, l[i]? = some e0 := ⟨_, List.getElem?_eq_getElem hlx1⟩
   have hmx1 : x1 ∈ l := List.mem_of_getElem? hx1
   refine w_ rfl (L_ (b_ rfl (g_ (ae_ (g_ (c_ (a_ (ah_ ab_ as_ rfl rfl (fun v _ h => aN_ (n := 9) Stp.cells_len (by decide) (by exact h.1) hx1) (by omega) (by first | omega | (simp; done))) rfl (a_ (aM_ (ad := ad) (us := Stp.cells x1) cx_ as_ rfl (fun v _ h => by exact h.1) (Stp.cells_len _) (ak_ Stp.cells_len hx1)) rfl (ad_ bc_ rfl fun b5 => ?_)))))))))
   refine X_ 0 as_ rfl rfl rfl rfl rfl rfl (d_ (b_ rfl (g_ (c_ (a_ (O_ 0 cx_ as_ rfl rfl rfl) rfl (af_ (oF_ x1 (hfr x1 hmx1) (hsf x1 hmx1)) rfl B_ (fun v _ h => by exact ⟨(h.2.1 x1 hmx1), trivial⟩) rfl fun r6 hr6 => ?_))))))
   refine a_ (bo_ rfl) rfl (d_ (b_ rfl ?_))
   cases r6
   ·
    refine w_ rfl (g_ (c_ (a_ (e_ rfl) rfl (a_ (e_ rfl) rfl (d_ (b_ rfl (u_ ?_)))))))
    have he : eA_ l = ([], 120) := by unfold eA_; rw [if_neg (by omega), if_neg (fun z => by have := List.all_eq_true.1 z x1 hmx1; simp_all)]
    exact oh_ Tryz.results15 ⟨(.slice none 0 0, []), by rw [he]; exact br_.nil _ _⟩ rfl rfl (by dsimp only; rw [he]) B_ (fun _ _ _ => trivial)
   ·
    refine y_ rfl (L_ (b_ rfl (c_ (a_ (ac_ rfl rfl rfl (aK_ (by omega) (by omega))) rfl (a_ (f_ rfl) rfl (d_ (q_ rfl ?_)))))))
    exact aO_ ⟨i + 1, hlx1, fun u hu => by rw [List.take_add_one, hx1] at hu; rcases List.mem_append.1 hu with z | z; exact hE0 u z; simp only [Option.toList_some, List.mem_singleton] at z; subst z; assumption⟩ (by dsimp only; omega) ⟨rfl, rfl, rfl, rfl, rfl, rfl, trivial⟩ (H_ D_) (fun _ _ h => h)
 ·
  replace hr1 := of_decide_eq_true hr1
  refine w_ rfl (g_ (c_ (a_ (e_ rfl) rfl (a_ (e_ rfl) rfl (d_ (b_ rfl (u_ ?_)))))))
  have he : eA_ l = ([], 2) := by unfold eA_; rw [if_pos (by omega)]
  exact oh_ Tryz.results15 ⟨(.slice none 0 0, []), by rw [he]; exact br_.nil _ _⟩ rfl rfl (by dsimp only; rw [he]) B_ (fun _ _ _ => trivial)
end Go.Proofs.YtaffcjgphlhppaaGreatDoor
namespace Go.Proofs.YtaffcjgphlhppaaGreatDoor
open Go Go.Sx Go.Proofs
attribute [local irreducible] Code.wp wpList wpAnyH
open Go.Vs
structure NewE where
  g : Nat
  pb : Nat
  kb : Nat
  ab : Nat
  ub : Nat
  ob : Nat
  ib : Nat
  rb : Nat
  sb : Nat
  fb : Nat
  lv : Value
  hm : Hp
  hl : Hp
def NewE.ok (ps : List Pc) (y : NewE) : Prop := hQ_ Ky.val Pc.cells 73 10 (pmOf ps) y.pb y.hm ∧ br_ 9 1 y.lv (List.length (lg_ ps)) (List.flatMap cX_ (lg_ ps)) y.hl
def NewE.own (y : NewE) : Hp := (y.g, .cells #[.map (some y.pb), y.lv, .map (some y.kb), .nilFunc, .map (some y.ab), .map (some y.ub), .map (some y.ob), .map (some y.ib), .map (some y.rb), .map (some y.sb), .map (some y.fb)] 111 (0, 0)) :: (y.kb, .map #[] 0) :: (y.ab, .map #[] 0) :: (y.ub, .map #[] 0) :: (y.ob, .map #[] 0) :: (y.ib, .map #[] 0) :: (y.rb, .map #[] 0) :: (y.sb, .map #[] 0) :: (y.fb, .map #[] 0) :: (y.hm ++ y.hl)
end Go.Proofs.YtaffcjgphlhppaaGreatDoor
namespace Go.Proofs.YtaffcjgphlhppaaGreatDoor
open Go Go.Sx Go.Proofs
attribute [local irreducible] Code.wp wpList wpAnyH
open Go.Vs
theorem mw_ (b : Nat) (e : TypeId) (sz : Nat) : br_ e sz (.slice (some ⟨b, 0, none⟩) 0 0) 0 [] [(b, .cells #[] e (0, 0))] := ⟨by simp, .inr ⟨b, 0, #[], rfl, rfl, Nat.le_refl _, by simp [maxLen], by simp, by simp⟩⟩
end Go.Proofs.YtaffcjgphlhppaaGreatDoor
namespace Go.Proofs.YtaffcjgphlhppaaGreatDoor
open Go Go.Sx Go.Proofs
attribute [local irreducible] Code.wp wpList wpAnyH
open Go.Vs
theorem kh_ (db : Nat) (d : Dst) (n : Nat) (hd : d.ok) (hn : n < 140737488355328) : TriX Tryz.prog 159 #[zp_ db 0, .int .i64 (n : Int)] [(db, .cells #[.slice (Dst.ad d) (List.length (Dst.r d)) (Dst.cap d)] 92 (0, 0))] [aR_ (Dst.ad d) (List.flatMap u8C (Dst.r d))] (fun y : {y : (Option Addr × Nat) × Dst // n ≤ d.r.length ∧ y.2.r = d.r.drop n ∧ y.2.ok ∧ (d.r.take n).length ≤ y.1.2 ∧ (y.1.1 = none → y.1.2 = 0)} => .slice y.1.1.1 (List.length (d.r.take n)) y.1.1.2) (fun y => [(db, .cells #[.slice (Dst.ad y.1.2) (List.length (Dst.r y.1.2)) (Dst.cap y.1.2)] 92 (0, 0))]) (fun y => [aR_ y.1.1.1 (List.flatMap u8C (d.r.take n)), aR_ (Dst.ad y.1.2) (List.flatMap u8C (Dst.r y.1.2))]) (¬ n ≤ d.r.length) := by
  refine bd_ Tryz.func159 rfl rfl Tryz.ntmps159 rfl fun v0 => ?_
  refine g_ (c_ (a_ (e_ rfl) rfl (d_ (b_ rfl (g_ (c_ (a_ (f_ rfl) rfl (a_ (f_ rfl) rfl (a_ (aY_ rfl) rfl ?_)))))))))
  refine a_ (h_ cY_ rfl rfl rfl dE_) rfl (a_ (m_ 0 kE_ rfl rfl rfl) rfl (a_ (aB_ bv_ rfl) rfl (E_ (bX_ rfl rfl) rfl fun r1 hr1 => ?_)))
  refine al_ (cL_ r1) rfl B_ (fun _ _ _ => by exact trivial) rfl (fun hb => ce_ ((fun q => by rw [hb] at hr1; simp at hr1; omega))) fun ⟨_, hn1⟩ => ?_
  try dsimp only
  have hn9 : n ≤ List.length (Dst.r d) := by have z := hr1; rw [hn1] at z; simp at z; omega
  refine d_ (b_ rfl (g_ ?_))
  refine cq_ ([]) (by kernel_rfl) ?_
  refine K_ 8 [0, 1, 2, 3, 5, 7, 8, 9, 11] (by kernel_rfl) (fun _ a b => ⟨av_ a, b⟩) (j_ rfl (f_ rfl) rfl (j_ rfl (f_ rfl) rfl (j_ rfl (aY_ rfl) rfl (j_ rfl (h_ cY_ rfl rfl rfl dE_) rfl (j_ rfl (f_ rfl) rfl (j_ rfl (f_ rfl) rfl (j_ rfl (aY_ rfl) rfl (j_ rfl (h_ cY_ rfl rfl rfl dE_) rfl (j_ rfl (f_ rfl) rfl ?_)))))))))
  refine J_ ?_
  refine bT_ 4 10 rfl rfl (by kernel_rfl) ?_ ?_
  · skip
    refine a_ (m_ 0 kE_ rfl rfl rfl) rfl (d_ (q_ rfl (A_ (fun _ a b => ⟨av_ a, b⟩) (K_ 5 [6, 13] (by kernel_rfl) (fun _ a b => ⟨av_ a, b⟩) (j_ rfl (bW_ (ds_ (i := 0) (j := n) (kl := .i64) (kh := .i64) bv_ eZ_ rfl rfl rfl (by omega) (by have := hd.1; omega)) (show _ = Value.slice (sad (Dst.ad d) (Dst.cap d) 0 1) (List.length (List.take n (Dst.r d))) ((Dst.cap d) - 0) by rw [List.length_take, Nat.min_eq_left (by omega)]; rfl)) rfl (j_ rfl (e_ rfl) rfl (J_ (I_ 10 rfl (by kernel_rfl) (a_ (m_ 0 kE_ rfl rfl rfl) rfl ?_)))))))))
    refine d_ (q_ rfl (A_ (fun _ a b => ⟨av_ a, b⟩) (K_ 1 [12, 14, 15] (by kernel_rfl) (fun _ a b => ⟨av_ a, b⟩) (j_ rfl (bW_ (ds_ (i := n) (j := List.length (Dst.r d)) (kl := .i64) (kh := .i64) bv_ eZ_ rfl rfl rfl (by omega) (by have := hd.1; omega)) (show _ = Value.slice (sad (Dst.ad d) (Dst.cap d) n 1) (List.length (List.drop n (Dst.r d))) ((Dst.cap d) - n) by rw [List.length_drop])) rfl (j_ rfl (aY_ rfl) rfl (j_ rfl (h_ cY_ rfl rfl rfl dE_) rfl (J_ (I_ 16 rfl (by kernel_rfl) (X_ 0 dE_ rfl rfl rfl rfl rfl rfl ?_)))))))))
    refine d_ (q_ rfl (A_ (fun _ a b => ⟨av_ a, b⟩) (S_ (by kernel_rfl) (b_ rfl (g_ (c_ (a_ (f_ rfl) rfl (a_ (e_ rfl) rfl (d_ ?_)))))))))
    refine b_ rfl (u_ ?_)
    have k1 : List.length (List.drop n (Dst.r d)) ≤ ((Dst.cap d) - n) := (by rw [List.length_drop]; have := hd.1; omega)
    have k2 : ((Dst.cap d) - n) ≤ maxLen := by have := hd.2.1; omega
    have k3 : (sad (Dst.ad d) (Dst.cap d) n 1) = none → ((Dst.cap d) - n) = 0 := (fun q => by have := hd.2.2 (fR_ q); omega)
    have k4 : List.length (List.take n (Dst.r d)) ≤ ((Dst.cap d) - 0) := (by rw [List.length_take]; have := hd.1; omega)
    have k5 : (sad (Dst.ad d) (Dst.cap d) 0 1) = none → ((Dst.cap d) - 0) = 0 := (fun q => by have := hd.2.2 (fR_ q); omega)
    exact bN_ (Y_ Tryz.results159 ⟨(((sad (Dst.ad d) (Dst.cap d) 0 1), ((Dst.cap d) - 0)), Dst.mk (sad (Dst.ad d) (Dst.cap d) n 1) ((Dst.cap d) - n) (List.drop n (Dst.r d))), hn9, rfl, ⟨k1, k2, k3⟩, k4, k5⟩ (gd_ rfl (by dsimp only)) D_ (fun v _ h => by exact ⟨(bD_.slice fm_ h.1 hd.1 0 n), (bD_.rest fm_ h.1 hd.1 n), trivial⟩))
  · skip
    refine a_ (m_ 0 kE_ rfl rfl rfl) rfl (d_ (q_ rfl (A_ (fun _ a b => ⟨av_ a, b⟩) (K_ 6 [12] (by kernel_rfl) (fun _ a b => ⟨av_ a, b⟩) (j_ rfl (bW_ (ds_ (i := n) (j := List.length (Dst.r d)) (kl := .i64) (kh := .i64) bv_ eZ_ rfl rfl rfl (by omega) (by have := hd.1; omega)) (show _ = Value.slice (sad (Dst.ad d) (Dst.cap d) n 1) (List.length (List.drop n (Dst.r d))) ((Dst.cap d) - n) by rw [List.length_drop])) rfl (J_ (I_ 4 rfl (by kernel_rfl) (a_ (m_ 0 kE_ rfl rfl rfl) rfl (d_ ?_)))))))))
    refine q_ rfl (A_ (fun _ a b => ⟨av_ a, b⟩) (K_ 1 [6, 13, 14, 15] (by kernel_rfl) (fun _ a b => ⟨av_ a, b⟩) (j_ rfl (bW_ (ds_ (i := 0) (j := n) (kl := .i64) (kh := .i64) bv_ eZ_ rfl rfl rfl (by omega) (by have := hd.1; omega)) (show _ = Value.slice (sad (Dst.ad d) (Dst.cap d) 0 1) (List.length (List.take n (Dst.r d))) ((Dst.cap d) - 0) by rw [List.length_take, Nat.min_eq_left (by omega)]; rfl)) rfl (j_ rfl (e_ rfl) rfl (j_ rfl (aY_ rfl) rfl (j_ rfl (h_ cY_ rfl rfl rfl dE_) rfl (J_ (I_ 16 rfl (by kernel_rfl) (X_ 0 dE_ rfl rfl rfl rfl rfl rfl ?_)))))))))
    refine d_ (q_ rfl (A_ (fun _ a b => ⟨av_ a, b⟩) (S_ (by kernel_rfl) (b_ rfl (g_ (c_ (a_ (f_ rfl) rfl (a_ (e_ rfl) rfl (d_ ?_)))))))))
    refine b_ rfl (u_ ?_)
    have k1 : List.length (List.drop n (Dst.r d)) ≤ ((Dst.cap d) - n) := (by rw [List.length_drop]; have := hd.1; omega)
    have k2 : ((Dst.cap d) - n) ≤ maxLen := by have := hd.2.1; omega
    have k3 : (sad (Dst.ad d) (Dst.cap d) n 1) = none → ((Dst.cap d) - n) = 0 := (fun q => by have := hd.2.2 (fR_ q); omega)
    have k4 : List.length (List.take n (Dst.r d)) ≤ ((Dst.cap d) - 0) := (by rw [List.length_take]; have := hd.1; omega)
    have k5 : (sad (Dst.ad d) (Dst.cap d) 0 1) = none → ((Dst.cap d) - 0) = 0 := (fun q => by have := hd.2.2 (fR_ q); omega)
    exact bN_ (Y_ Tryz.results159 ⟨(((sad (Dst.ad d) (Dst.cap d) 0 1), ((Dst.cap d) - 0)), Dst.mk (sad (Dst.ad d) (Dst.cap d) n 1) ((Dst.cap d) - n) (List.drop n (Dst.r d))), hn9, rfl, ⟨k1, k2, k3⟩, k4, k5⟩ (gd_ rfl (by dsimp only)) D_ (fun v _ h => by exact ⟨(bD_.slice fm_ h.1 hd.1 0 n), (bD_.rest fm_ h.1 hd.1 n), trivial⟩))
theorem eV_ (db : Nat) (d : Dst) (n : Nat) (hd : d.ok) (hn : n ≤ 8) : TriX Tryz.prog 87 #[zp_ db 0, .int .i64 (n : Int)] [(db, .cells #[.slice (Dst.ad d) (List.length (Dst.r d)) (Dst.cap d)] 92 (0, 0))] [aR_ (Dst.ad d) (List.flatMap u8C (Dst.r d))] (fun y : {y : Nat × Dst // di_ n d.r = some (y.1, y.2.r) ∧ y.2.ok} => .int .u64 (y.1.1 : Int)) (fun y => [(db, .cells #[.slice (Dst.ad y.1.2) (List.length (Dst.r y.1.2)) (Dst.cap y.1.2)] 92 (0, 0))]) (fun y => [aR_ (Dst.ad y.1.2) (List.flatMap u8C (Dst.r y.1.2))]) (di_ n d.r = none) := by
  refine bd_ Tryz.func87 rfl rfl Tryz.ntmps87 rfl fun v0 => ?_
  have hl9 : List.length (List.take n (Dst.r d)) ≤ 8 := by rw [List.length_take]; omega
  refine g_ (c_ (a_ (e_ rfl) rfl (d_ (b_ rfl (g_ (g_ (c_ (a_ (f_ rfl) rfl (a_ (f_ rfl) rfl ?_)))))))))
  refine al_ (kh_ db d n hd (by omega)) rfl D_ (fun v _ h => by exact ⟨h.1, trivial⟩) rfl (fun hb => ce_ (ip_ hb)) fun ⟨⟨⟨ba, bc⟩, e⟩, hb1, hb2, hb3, hb4, hb5⟩ => ?_
  try dsimp only
  refine a_ (aB_ bv_ rfl) rfl (a_ (f_ rfl) rfl (d_ (b_ rfl (ae_ ?_))))
  refine bz_ (ι := {y : Nat // y ≤ List.length (List.take n (Dst.r d))}) (fun y => [(4, .int .u64 (beN (List.take y.1 (List.take n (Dst.r d))) : Int)), (9, .slice ba (List.length (List.take n (Dst.r d))) bc), (10, .int .i64 (List.length (List.take n (Dst.r d)) : Int)), (11, .int .i64 (y.1 : Int))]) (fun y => ((db, .cells #[.slice (Dst.ad e) (List.length (Dst.r e)) (Dst.cap e)] 92 (0, 0)) :: [])) (fun y => [aR_ ba (List.flatMap u8C (List.take n (Dst.r d))), aR_ (Dst.ad e) (List.flatMap u8C (Dst.r e)), aR_ (Dst.ad d) (List.flatMap u8C (Dst.r d))]) (fun y => List.length (List.take n (Dst.r d)) - y.1) ⟨(0 : Nat), by simp⟩ ⟨rfl, rfl, rfl, rfl, trivial⟩ D_ (fun _ _ h => h) ?_
  rintro ⟨i, hi_i⟩
  dsimp only at hi_i ⊢
  refine g_ (c_ (E_ (au_ rfl rfl) rfl fun r1 hr1 => ?_))
  refine d_ (b_ rfl (g_ ?_))
  cases r1
  · skip
    replace hr1 := of_decide_eq_false hr1
    refine y_ rfl (bi_ rfl (b_ rfl (g_ (c_ (a_ (f_ rfl) rfl (a_ (e_ rfl) rfl (d_ (b_ rfl (u_ ?_)))))))))
    have e9 : List.take i (List.take n (Dst.r d)) = (List.take n (Dst.r d)) := List.take_of_length_le (by omega)
    exact bN_ (Y_ Tryz.results87 ⟨(beN (List.take n (Dst.r d)), e), by rw [gu_ hb1, hb2], hb3⟩ (aA_ rfl (by rw [e9])) D_ (fun v _ h => by exact ⟨h.2.1, trivial⟩))
  · skip
    replace hr1 := of_decide_eq_true hr1
    have hlx1 : i < List.length (List.take n (Dst.r d)) := by omega
    obtain ⟨x1, hx1⟩ : ∃ e0, (List.take n (Dst.r d))[i]? = some e0 := ⟨_, List.getElem?_eq_getElem hlx1⟩
    have hmx1 : x1 ∈ (List.take n (Dst.r d)) := List.mem_of_getElem? hx1
    refine w_ rfl (L_ (b_ rfl (g_ (ae_ (g_ (c_ (a_ (ah_ bv_ eZ_ rfl rfl (fun v _ h => aN_ (n := 1) fm_ (by decide) (by exact h.1) hx1) (by omega) (by first | omega | (simp; done))) rfl (a_ (bj_ (ad := ba) Tryz.isAgg5 rfl (fun v _ h => by exact h.1) (ak_ fm_ hx1 0 _ rfl)) rfl (a_ (e_ rfl) rfl ?_)))))))))
    refine d_ (b_ rfl (c_ (a_ (f_ rfl) rfl (a_ (me_ (m := beN (List.take i (List.take n (Dst.r d)))) rfl rfl (mA_ hlx1 (by rw [List.length_take]; omega))) rfl (a_ (f_ rfl) rfl (a_ (eF_ jq_ dI_ rfl (ml_ (by omega) (by have := UInt8.toNat_lt x1; omega))) rfl (a_ (nN_ (m := beN (List.take i (List.take n (Dst.r d)))) (c := UInt8.toNat x1) rfl rfl (mA_ hlx1 (by rw [List.length_take]; omega)) (by have := UInt8.toNat_lt x1; omega)) rfl (a_ (e_ rfl) rfl (d_ ?_)))))))))
    refine b_ rfl (c_ (a_ (ac_ rfl rfl rfl (aK_ (by omega) (by omega))) rfl (a_ (f_ rfl) rfl (d_ (q_ rfl ?_)))))
    exact aO_ ⟨i + 1, hlx1⟩ (by dsimp only; omega) ⟨(congrArg some (congrArg (Value.int .u64) (by dsimp only; rw [oV_ hx1]))), rfl, rfl, rfl, trivial⟩ D_ (fun _ _ h => h)
theorem kf_ (db : Nat) : iB_ Tryz.prog 89 92 db (fun q : Int => Value.int .i64 q) de_ := by
  intro d hd
  refine bd_ Tryz.func89 rfl rfl Tryz.ntmps89 rfl fun v0 => ?_
  refine g_ (c_ (a_ (e_ rfl) rfl (d_ (b_ rfl (g_ (c_ (a_ (f_ rfl) rfl (al_ (eV_ db d 1 hd (by decide)) rfl D_ (fun v _ h => by exact ⟨h.1, trivial⟩) rfl (fun hb => ce_ (oc_ hb)) fun ⟨⟨iv, e⟩, hi1, hi2⟩ => ?_))))))))
  try dsimp only
  refine a_ (eF_ dI_ cM_ rfl (iE_ (by have := gb_ hi1; omega))) rfl (a_ (e_ rfl) rfl (d_ (b_ rfl (u_ ?_))))
  exact bN_ (Y_ Tryz.results89 ⟨((iv : Int), e), ob_ hi1, hi2⟩ rfl D_ (fun v _ h => by exact ⟨h.1, trivial⟩))
theorem oS_ (db : Nat) : iB_ Tryz.prog 92 92 db (fun q : Int => Value.int .i64 q) fd_ := by
  intro d hd
  refine bd_ Tryz.func92 rfl rfl Tryz.ntmps92 rfl fun v0 => ?_
  refine g_ (c_ (a_ (e_ rfl) rfl (d_ (b_ rfl (g_ (c_ (a_ (f_ rfl) rfl (al_ (eV_ db d 8 hd (by decide)) rfl D_ (fun v _ h => by exact ⟨h.1, trivial⟩) rfl (fun hb => ce_ (long_n hb)) fun ⟨⟨iv, e⟩, hi1, hi2⟩ => ?_))))))))
  try dsimp only
  refine a_ (eF_ dI_ cM_ rfl (mk_ (by have := gb_ hi1; omega))) rfl (a_ (e_ rfl) rfl (d_ (b_ rfl (u_ ?_))))
  exact bN_ (Y_ Tryz.results92 ⟨((fK_ iv), e), long_t hi1, hi2⟩ rfl D_ (fun v _ h => by exact ⟨h.1, trivial⟩))
theorem gh_ (db : Nat) : iB_ Tryz.prog 42 92 db (fun q : Int => Value.int .i64 q) eQ_ := by
  intro d hd
  refine bd_ Tryz.func42 rfl rfl Tryz.ntmps42 rfl fun v0 => ?_
  refine g_ (c_ (a_ (e_ rfl) rfl (d_ (b_ rfl (g_ (c_ (a_ (f_ rfl) rfl (al_ (eV_ db d 4 hd (by decide)) rfl D_ (fun v _ h => by exact ⟨h.1, trivial⟩) rfl (fun hb => ce_ (idx_n hb)) fun ⟨⟨iv, e⟩, hi1, hi2⟩ => ?_))))))))
  try dsimp only
  refine a_ (e_ rfl) rfl (d_ (b_ rfl (g_ (c_ (a_ (f_ rfl) rfl (E_ (bX_ rfl rfl) rfl fun r1 hr1 => ?_))))))
  refine al_ (cL_ r1) rfl B_ (fun _ _ _ => by exact trivial) rfl (fun hb => ce_ ((idx_f hi1 (fun q => by rw [hb] at hr1; simp at hr1; omega)))) fun ⟨_, hn1⟩ => ?_
  try dsimp only
  have hn9 : iv ≤ 2147483647 := by have z := hr1; rw [hn1] at z; simp at z; omega
  refine d_ (b_ rfl (g_ (c_ (a_ (f_ rfl) rfl (a_ (eF_ dI_ cM_ rfl (iE_ (by omega))) rfl (a_ (e_ rfl) rfl (d_ (b_ rfl (u_ ?_)))))))))
  exact bN_ (Y_ Tryz.results42 ⟨((iv : Int), e), pj_ hi1 hn9, hi2⟩ rfl D_ (fun v _ h => by exact ⟨h.1, trivial⟩))
theorem oR_ (db : Nat) : iB_ Tryz.prog 91 92 db str dQ_ := by
  intro d hd
  refine bd_ Tryz.func91 rfl rfl Tryz.ntmps91 rfl fun v0 => ?_
  refine g_ (c_ (a_ (e_ rfl) rfl (d_ (b_ rfl (g_ (c_ (a_ (f_ rfl) rfl (a_ (f_ rfl) rfl (al_ (eV_ db d 2 hd (by decide)) rfl D_ (fun v _ h => by exact ⟨h.1, trivial⟩) rfl (fun hb => ce_ (text_n hb)) fun ⟨⟨iv, e⟩, hi1, hi2⟩ => ?_)))))))))
  try dsimp only
  refine a_ (eF_ dI_ cM_ rfl (iE_ (by have := gb_ hi1; omega))) rfl (al_ (kh_ db e iv hi2 (by have := gb_ hi1; omega)) rfl D_ (fun v _ h => by exact ⟨h.1, trivial⟩) rfl (fun hb => ce_ (text_f hi1 hb)) fun ⟨⟨⟨ba, bc⟩, e2⟩, hb1, hb2, hb3, hb4, hb5⟩ => ?_)
  try dsimp only
  refine a_ (kS_ hU_ jq_ dj_ rfl (fun v _ h => by exact h.1)) rfl (a_ (e_ rfl) rfl (d_ (b_ rfl (u_ ?_))))
  exact bN_ (Y_ Tryz.results91 ⟨(_, e2), by rw [mq_ hi1 hb1, hb2], hb3⟩ rfl D_ (fun v _ h => by exact ⟨h.2.1, trivial⟩))
end Go.Proofs.YtaffcjgphlhppaaGreatDoor
namespace Go.Proofs.YtaffcjgphlhppaaGreatDoor
open Go Go.Sx Go.Proofs
attribute [local irreducible] Code.wp wpList wpAnyH
open Go.Vs
theorem gQ_ (g : FuncId) (db tb : Nat) (TT : TypeId) (f : Str → Option (Int × Str)) (hrd : iB_ Tryz.prog g 92 db (fun q : Int => Value.int .i64 q) f) (d : Dst) (hd : d.ok) (os : List Nat) (cs : List Value) (hos : ∀ o ∈ os, o < List.length cs) (pad : Option Addr) (pcap : Nat) (hol : os.length ≤ 100) : TriX Tryz.prog 88 #[.func (.func g) #[zp_ db 0] #[], .slice pad (List.length os) pcap] [(tb, .cells (List.toArray cs) TT (0, 0)), (db, .cells #[.slice (Dst.ad d) (List.length (Dst.r d)) (Dst.cap d)] 92 (0, 0))] [aR_ pad (List.flatMap (hL_ tb) os), aR_ (Dst.ad d) (List.flatMap u8C (Dst.r d))] (fun y : {y : List Value × Dst // cA_ f (fun q : Int => Value.int .i64 q) os cs d.r = some (y.1, y.2.r) ∧ y.2.ok} => .tuple #[]) (fun y => [(tb, .cells (List.toArray y.1.1) TT (0, 0)), (db, .cells #[.slice (Dst.ad y.1.2) (List.length (Dst.r y.1.2)) (Dst.cap y.1.2)] 92 (0, 0))]) (fun y => [aR_ (Dst.ad y.1.2) (List.flatMap u8C (Dst.r y.1.2))]) (cA_ f (fun q : Int => Value.int .i64 q) os cs d.r = none) := by
  refine bd_ Tryz.func88 rfl rfl Tryz.ntmps88 rfl fun v0 => ?_
  refine g_ (c_ (a_ (f_ rfl) rfl (a_ (aB_ dF_ rfl) rfl (a_ (f_ rfl) rfl (d_ (b_ rfl (ae_ ?_)))))))
  refine bz_ (ι := {y : Nat × List Value × Dst // y.1 ≤ List.length os ∧ cA_ f (fun q : Int => Value.int .i64 q) os cs d.r = cA_ f (fun q : Int => Value.int .i64 q) (List.drop y.1 os) y.2.1 y.2.2.r ∧ Dst.ok y.2.2 ∧ List.length y.2.1 = List.length cs}) (fun y => [(0, .func (.func g) #[zp_ db 0] #[]), (6, .slice pad (List.length os) pcap), (7, .int .i64 (List.length os : Int)), (8, .int .i64 (y.1.1 : Int))]) (fun y => ((tb, .cells (List.toArray y.1.2.1) TT (0, 0)) :: ((db, .cells #[.slice (Dst.ad y.1.2.2) (List.length (Dst.r y.1.2.2)) (Dst.cap y.1.2.2)] 92 (0, 0)) :: []))) (fun y => [aR_ pad (List.flatMap (hL_ tb) os), aR_ (Dst.ad y.1.2.2) (List.flatMap u8C (Dst.r y.1.2.2))]) (fun y => List.length os - y.1.1) ⟨((0 : Nat), cs, d), by simp, rfl, hd, rfl⟩ ⟨rfl, rfl, rfl, rfl, trivial⟩ (N_ D_ D_) (fun _ _ h => h) ?_
  rintro ⟨⟨i, c, e⟩, hi, hF, he, hcl⟩
  dsimp only at hi hF he hcl ⊢
  refine g_ (c_ (E_ (au_ rfl rfl) rfl fun r1 hr1 => ?_))
  refine d_ (b_ rfl (g_ ?_))
  cases r1
  · skip
    replace hr1 := of_decide_eq_false hr1
    refine y_ rfl (bi_ rfl (ge_ rfl ?_))
    exact endX (oP_ Tryz.results88 ⟨(c, e), kc_ hF (by omega), he⟩ rfl (N_ D_ D_) (fun v _ h => by exact ⟨h.2.1, trivial⟩))
  · skip
    replace hr1 := of_decide_eq_true hr1
    have hlx1 : i < List.length os := by omega
    obtain ⟨x1, hx1⟩ : ∃ e0, os[i]? = some e0 := ⟨_, List.getElem?_eq_getElem hlx1⟩
    have hmx1 : x1 ∈ os := List.mem_of_getElem? hx1
    refine w_ rfl (L_ (b_ rfl (g_ (ae_ (g_ (c_ (a_ (ah_ dF_ mz_ rfl rfl (fun v _ h => aN_ (n := 1) (fT_ tb) (by decide) (by exact h.1) hx1) (by omega) (by first | omega | (simp; done))) rfl (a_ (bj_ (ad := pad) Tryz.isAgg159 rfl (fun v _ h => by exact h.1) (ak_ (fT_ tb) hx1 0 _ rfl)) rfl (a_ (e_ rfl) rfl ?_)))))))))
    refine d_ (b_ rfl (c_ (a_ (f_ rfl) rfl (a_ (f_ rfl) rfl (eM_ (first := [zp_ db 0]) (cap := []) (vs := []) (hrd e he) rfl rfl (H_ D_) (fun v _ h => by exact ⟨h.2.1, trivial⟩) rfl (fun hb => ce_ (iv_ hF hx1 hb)) fun ⟨⟨rv, e1⟩, hf1, he1⟩ => ?_)))))
    dsimp only
    refine a_ (aY_ rfl) rfl (gC_ r_ rfl rfl (H_ D_) (by rw [hcl]; exact hos _ hmx1) rfl rfl (d_ (b_ rfl (c_ (a_ (ac_ rfl rfl rfl (aK_ (by omega) (by omega))) rfl (a_ (f_ rfl) rfl (d_ (q_ rfl ?_))))))))
    exact aO_ ⟨(i + 1, (List.set c x1 ((fun q : Int => Value.int .i64 q) rv)), e1), hlx1, iw_ hF hx1 hf1, he1, (by rw [List.length_set]; exact hcl)⟩ (by dsimp only; omega) ⟨rfl, rfl, rfl, rfl, trivial⟩ (N_ D_ D_) (fun v _ h => by exact ⟨h.2.1, h.1, trivial⟩)
theorem oL_ (g : FuncId) (db tb : Nat) (TT : TypeId) (f : Str → Option (Str × Str)) (hrd : iB_ Tryz.prog g 92 db str f) (d : Dst) (hd : d.ok) (os : List Nat) (cs : List Value) (hos : ∀ o ∈ os, o < List.length cs) (pad : Option Addr) (pcap : Nat) (hol : os.length ≤ 100) : TriX Tryz.prog 90 #[.func (.func g) #[zp_ db 0] #[], .slice pad (List.length os) pcap] [(tb, .cells (List.toArray cs) TT (0, 0)), (db, .cells #[.slice (Dst.ad d) (List.length (Dst.r d)) (Dst.cap d)] 92 (0, 0))] [aR_ pad (List.flatMap (hL_ tb) os), aR_ (Dst.ad d) (List.flatMap u8C (Dst.r d))] (fun y : {y : List Value × Dst // cA_ f str os cs d.r = some (y.1, y.2.r) ∧ y.2.ok} => .tuple #[]) (fun y => [(tb, .cells (List.toArray y.1.1) TT (0, 0)), (db, .cells #[.slice (Dst.ad y.1.2) (List.length (Dst.r y.1.2)) (Dst.cap y.1.2)] 92 (0, 0))]) (fun y => [aR_ (Dst.ad y.1.2) (List.flatMap u8C (Dst.r y.1.2))]) (cA_ f str os cs d.r = none) := by
  refine bd_ Tryz.func90 rfl rfl Tryz.ntmps90 rfl fun v0 => ?_
  refine g_ (c_ (a_ (f_ rfl) rfl (a_ (aB_ Tryz.runUnderlying189 rfl) rfl (a_ (f_ rfl) rfl (d_ (b_ rfl (ae_ ?_)))))))
  refine bz_ (ι := {y : Nat × List Value × Dst // y.1 ≤ List.length os ∧ cA_ f str os cs d.r = cA_ f str (List.drop y.1 os) y.2.1 y.2.2.r ∧ Dst.ok y.2.2 ∧ List.length y.2.1 = List.length cs}) (fun y => [(0, .func (.func g) #[zp_ db 0] #[]), (6, .slice pad (List.length os) pcap), (7, .int .i64 (List.length os : Int)), (8, .int .i64 (y.1.1 : Int))]) (fun y => ((tb, .cells (List.toArray y.1.2.1) TT (0, 0)) :: ((db, .cells #[.slice (Dst.ad y.1.2.2) (List.length (Dst.r y.1.2.2)) (Dst.cap y.1.2.2)] 92 (0, 0)) :: []))) (fun y => [aR_ pad (List.flatMap (hL_ tb) os), aR_ (Dst.ad y.1.2.2) (List.flatMap u8C (Dst.r y.1.2.2))]) (fun y => List.length os - y.1.1) ⟨((0 : Nat), cs, d), by simp, rfl, hd, rfl⟩ ⟨rfl, rfl, rfl, rfl, trivial⟩ (N_ D_ D_) (fun _ _ h => h) ?_
  rintro ⟨⟨i, c, e⟩, hi, hF, he, hcl⟩
  dsimp only at hi hF he hcl ⊢
  refine g_ (c_ (E_ (au_ rfl rfl) rfl fun r1 hr1 => ?_))
  refine d_ (b_ rfl (g_ ?_))
  cases r1
  · skip
    replace hr1 := of_decide_eq_false hr1
    refine y_ rfl (bi_ rfl (ge_ rfl ?_))
    exact endX (oP_ Tryz.results90 ⟨(c, e), kc_ hF (by omega), he⟩ rfl (N_ D_ D_) (fun v _ h => by exact ⟨h.2.1, trivial⟩))
  · skip
    replace hr1 := of_decide_eq_true hr1
    have hlx1 : i < List.length os := by omega
    obtain ⟨x1, hx1⟩ : ∃ e0, os[i]? = some e0 := ⟨_, List.getElem?_eq_getElem hlx1⟩
    have hmx1 : x1 ∈ os := List.mem_of_getElem? hx1
    refine w_ rfl (L_ (b_ rfl (g_ (ae_ (g_ (c_ (a_ (ah_ Tryz.runUnderlying189 Tryz.sizeOf162 rfl rfl (fun v _ h => aN_ (n := 1) (fT_ tb) (by decide) (by exact h.1) hx1) (by omega) (by first | omega | (simp; done))) rfl (a_ (bj_ (ad := pad) Tryz.isAgg162 rfl (fun v _ h => by exact h.1) (ak_ (fT_ tb) hx1 0 _ rfl)) rfl (a_ (e_ rfl) rfl ?_)))))))))
    refine d_ (b_ rfl (c_ (a_ (f_ rfl) rfl (a_ (f_ rfl) rfl (eM_ (first := [zp_ db 0]) (cap := []) (vs := []) (hrd e he) rfl rfl (H_ D_) (fun v _ h => by exact ⟨h.2.1, trivial⟩) rfl (fun hb => ce_ (iv_ hF hx1 hb)) fun ⟨⟨rv, e1⟩, hf1, he1⟩ => ?_)))))
    dsimp only
    refine a_ (aY_ rfl) rfl (gC_ x_ rfl rfl (H_ D_) (by rw [hcl]; exact hos _ hmx1) rfl rfl (d_ (b_ rfl (c_ (a_ (ac_ rfl rfl rfl (aK_ (by omega) (by omega))) rfl (a_ (f_ rfl) rfl (d_ (q_ rfl ?_))))))))
    exact aO_ ⟨(i + 1, (List.set c x1 (str rv)), e1), hlx1, iw_ hF hx1 hf1, he1, (by rw [List.length_set]; exact hcl)⟩ (by dsimp only; omega) ⟨rfl, rfl, rfl, rfl, trivial⟩ (N_ D_ D_) (fun v _ h => by exact ⟨h.2.1, h.1, trivial⟩)
end Go.Proofs.YtaffcjgphlhppaaGreatDoor
namespace Go.Proofs.YtaffcjgphlhppaaGreatDoor
open Go Go.Sx Go.Proofs
attribute [local irreducible] Code.wp wpList wpAnyH
open Go.Vs
theorem jd_ : Elt Tryz.prog 34 3 1 8 := ix_ Tryz.underlying34 (z := .int .i64 0) (by kernel_rfl) rfl (by decide)
theorem fw_ (db : Nat) (d : Dst) (hd : d.ok) : TriX Tryz.prog 44 #[zp_ db 0] [(db, .cells #[.slice (Dst.ad d) (List.length (Dst.r d)) (Dst.cap d)] 92 (0, 0))] [aR_ (Dst.ad d) (List.flatMap u8C (Dst.r d))] (fun y : {y : Stp × Dst // fQ_ d.r = some (y.1.ds, y.2.r) ∧ y.2.ok} => Stp.val y.1.1) (fun y => [(db, .cells #[.slice (Dst.ad y.1.2) (List.length (Dst.r y.1.2)) (Dst.cap y.1.2)] 92 (0, 0))]) (fun y => [aR_ y.1.1.ad (List.flatMap cV_ y.1.1.frm), aR_ (Dst.ad y.1.2) (List.flatMap u8C (Dst.r y.1.2))]) (fQ_ d.r = none) := by
 refine bd_ Tryz.func44 rfl rfl Tryz.ntmps44 rfl fun v0 => ?_
 refine g_ (c_ (ad_ bc_ rfl fun b1 => ?_))
 refine d_ (b_ rfl (g_ (c_ (a_ (h_ Q_ rfl rfl rfl k_) rfl (a_ (e_ rfl) rfl (d_ (b_ rfl (g_ (c_ ?_)))))))))
 refine ad_ cG_ rfl fun b2 => ?_
 refine X_ 0 r_ rfl rfl rfl rfl rfl rfl (d_ (b_ rfl (g_ (c_ (a_ (f_ rfl) rfl (a_ (cW_ rfl rfl) rfl (a_ (h_ Q_ rfl rfl rfl r_) rfl (a_ (f_ rfl) rfl (a_ (aY_ rfl) rfl ?_)))))))))
 refine a_ (h_ o_ rfl rfl rfl r_) rfl (aX_ dF_ mz_ Tryz.zeroValue159 rfl rfl rfl rfl rfl rfl fun b3 => ?_)
 refine bC_ (List.flatMap (hL_ b1) [0, 1]) D_ rfl ?_
 refine al_ (gQ_ 89 db b1 36 de_ (kf_ db) d hd [0, 1] [.int .i64 0, .int .i64 0, str [], str [], str [], .int .i64 0, .int .i64 0, .int .i64 0, .slice none 0 0] (by simp) (some ⟨b3, 0, none⟩) 2 (by simp)) rfl (N_ (H_ D_) (H_ D_)) (fun v _ h => by exact ⟨h.1, h.2.1, trivial⟩) rfl (fun hb => ce_ ((by rw [dl_]; exact kL_ hb _))) fun ⟨⟨c1, d1⟩, hf1, hd1⟩ => ?_
 try dsimp only
 obtain ⟨v1, r1, hq1, hf1⟩ := fv_ hf1
 obtain ⟨v2, hq2, rfl⟩ := fi_ hf1
 refine aZ_ (show List.Perm _ ((b1, .cells #[.int .i64 v1, .int .i64 v2, str [], str [], str [], .int .i64 0, .int .i64 0, .int .i64 0, .slice none 0 0] 36 (0, 0)) :: ((db, .cells #[.slice (Dst.ad d1) (List.length (Dst.r d1)) (Dst.cap d1)] 92 (0, 0)) :: ((b2, .cells #[.int .i64 0] 3 (0, 0)) :: []))) from .refl _) (d_ (b_ rfl (g_ ?_)))
 refine cq_ ((b2, .cells #[.int .i64 0] 3 (0, 0)) :: []) (by kernel_rfl) ?_
 refine K_ 2 [0, 1, 2, 3, 4, 5, 6, 7, 8, 9, 10] (by kernel_rfl) (fun _ a b => ⟨a.tail.tail, b⟩) (j_ rfl (f_ rfl) rfl (j_ rfl (cW_ rfl rfl) rfl (j_ rfl (f_ rfl) rfl (j_ rfl (aY_ rfl) rfl (j_ rfl (h_ o_ rfl rfl rfl x_) rfl (j_ rfl (f_ rfl) rfl (j_ rfl (aY_ rfl) rfl (j_ rfl (h_ o_ rfl rfl rfl x_) rfl (j_ rfl (f_ rfl) rfl ?_)))))))))
 refine j_ rfl (aY_ rfl) rfl (j_ rfl (h_ o_ rfl rfl rfl x_) rfl (J_ (I_ 11 rfl (by kernel_rfl) (aX_ Tryz.runUnderlying189 Tryz.sizeOf162 Tryz.zeroValue162 rfl rfl rfl rfl rfl rfl fun b4 => ?_))))
 refine bC_ (List.flatMap (hL_ b1) [2, 3, 4]) D_ rfl ?_
 refine d_ (q_ rfl (A_ (fun _ a b => ⟨a.tail.tail, b.2⟩) (I_ 12 rfl (by kernel_rfl) (al_ (oL_ 91 db b1 36 dQ_ (oR_ db) d1 hd1 [2, 3, 4] [.int .i64 v1, .int .i64 v2, str [], str [], str [], .int .i64 0, .int .i64 0, .int .i64 0, .slice none 0 0] (by simp) (some ⟨b4, 0, none⟩) 3 (by simp)) rfl (N_ D_ D_) (fun v _ h => by exact ⟨h.1, h.2.1, trivial⟩) rfl (fun hb => ce_ ((by rw [dl_]; simp only [hq1, hq2, Option.bind_some]; exact chain3 hb _))) fun ⟨⟨c2, d2⟩, hf2, hd2⟩ => ?_))))
 try dsimp only
 obtain ⟨v3, r3, hq3, hf2⟩ := fv_ hf2
 obtain ⟨v4, r4, hq4, hf2⟩ := fv_ hf2
 obtain ⟨v5, hq5, rfl⟩ := fi_ hf2
 refine aZ_ (show List.Perm _ ((b1, .cells #[.int .i64 v1, .int .i64 v2, str v3, str v4, str v5, .int .i64 0, .int .i64 0, .int .i64 0, .slice none 0 0] 36 (0, 0)) :: ((db, .cells #[.slice (Dst.ad d2) (List.length (Dst.r d2)) (Dst.cap d2)] 92 (0, 0)) :: ((b2, .cells #[.int .i64 0] 3 (0, 0)) :: []))) from .refl _) (d_ (q_ rfl (A_ (fun _ a b => ⟨a.tail.tail, b.2.2⟩) (S_ (by kernel_rfl) (b_ rfl (g_ ?_))))))
 refine cq_ ((b2, .cells #[.int .i64 0] 3 (0, 0)) :: []) (by kernel_rfl) ?_
 refine K_ 2 [0, 1, 2, 3, 4, 5, 6, 7] (by kernel_rfl) (fun _ a b => ⟨a.tail.tail, b⟩) (j_ rfl (f_ rfl) rfl (j_ rfl (cW_ rfl rfl) rfl (j_ rfl (f_ rfl) rfl (j_ rfl (aY_ rfl) rfl (j_ rfl (h_ o_ rfl rfl rfl r_) rfl (j_ rfl (f_ rfl) rfl (j_ rfl (aY_ rfl) rfl (j_ rfl (h_ o_ rfl rfl rfl r_) rfl (J_ ?_)))))))))
 refine I_ 8 rfl (by kernel_rfl) (aX_ dF_ mz_ Tryz.zeroValue159 rfl rfl rfl rfl rfl rfl fun b5 => ?_)
 refine bC_ (List.flatMap (hL_ b1) [5, 6]) D_ rfl ?_
 refine d_ (q_ rfl (A_ (fun _ a b => ⟨a.tail.tail, b.2⟩) (I_ 9 rfl (by kernel_rfl) (al_ (gQ_ 92 db b1 36 fd_ (oS_ db) d2 hd2 [5, 6] [.int .i64 v1, .int .i64 v2, str v3, str v4, str v5, .int .i64 0, .int .i64 0, .int .i64 0, .slice none 0 0] (by simp) (some ⟨b5, 0, none⟩) 2 (by simp)) rfl (N_ D_ D_) (fun v _ h => by exact ⟨h.1, h.2.1, trivial⟩) rfl (fun hb => ce_ ((by rw [dl_]; simp only [hq1, hq2, hq3, hq4, hq5, Option.bind_some]; exact kL_ hb _))) fun ⟨⟨c3, d3⟩, hf3, hd3⟩ => ?_))))
 try dsimp only
 obtain ⟨v6, r6, hq6, hf3⟩ := fv_ hf3
 obtain ⟨v7, hq7, rfl⟩ := fi_ hf3
 refine aZ_ (show List.Perm _ ((b1, .cells #[.int .i64 v1, .int .i64 v2, str v3, str v4, str v5, .int .i64 v6, .int .i64 v7, .int .i64 0, .slice none 0 0] 36 (0, 0)) :: ((db, .cells #[.slice (Dst.ad d3) (List.length (Dst.r d3)) (Dst.cap d3)] 92 (0, 0)) :: ((b2, .cells #[.int .i64 0] 3 (0, 0)) :: []))) from .refl _) (d_ (q_ rfl (A_ (fun _ a b => ⟨a.tail.tail, b.2.2⟩) (S_ (by kernel_rfl) (b_ rfl (g_ (c_ (a_ (f_ rfl) rfl (a_ (cW_ rfl rfl) rfl ?_)))))))))
 refine a_ (h_ Q_ rfl rfl rfl r_) rfl (aX_ dF_ mz_ Tryz.zeroValue159 rfl rfl rfl rfl rfl rfl fun b6 => ?_)
 refine bC_ (List.flatMap (hL_ b1) [7]) D_ rfl ?_
 refine al_ (gQ_ 42 db b1 36 eQ_ (gh_ db) d3 hd3 [7] [.int .i64 v1, .int .i64 v2, str v3, str v4, str v5, .int .i64 v6, .int .i64 v7, .int .i64 0, .slice none 0 0] (by simp) (some ⟨b6, 0, none⟩) 1 (by simp)) rfl (N_ D_ D_) (fun v _ h => by exact ⟨h.1, h.2.1, trivial⟩) rfl (fun hb => ce_ ((by rw [dl_]; simp only [hq1, hq2, hq3, hq4, hq5, hq6, hq7, Option.bind_some]; exact kM_ hb _))) fun ⟨⟨c4, d4⟩, hf4, hd4⟩ => ?_
 try dsimp only
 obtain ⟨v8, hq8, rfl⟩ := fi_ hf4
 refine aZ_ (show List.Perm _ ((b1, .cells #[.int .i64 v1, .int .i64 v2, str v3, str v4, str v5, .int .i64 v6, .int .i64 v7, .int .i64 v8, .slice none 0 0] 36 (0, 0)) :: ((db, .cells #[.slice (Dst.ad d4) (List.length (Dst.r d4)) (Dst.cap d4)] 92 (0, 0)) :: ((b2, .cells #[.int .i64 0] 3 (0, 0)) :: []))) from .refl _) (d_ (b_ rfl (g_ (c_ (a_ (f_ rfl) rfl (a_ (cW_ rfl rfl) rfl (aX_ dF_ mz_ Tryz.zeroValue159 rfl rfl rfl rfl rfl rfl fun b7 => ?_)))))))
 refine bC_ (List.flatMap (hL_ b2) [0]) D_ rfl ?_
 refine al_ (gQ_ 89 db b2 3 de_ (kf_ db) d4 hd4 [0] [.int .i64 0] (by simp) (some ⟨b7, 0, none⟩) 1 (by simp)) rfl (N_ (H_ (H_ D_)) (H_ D_)) (fun v _ h => by exact ⟨h.1, h.2.1, trivial⟩) rfl (fun hb => ce_ ((by rw [dl_]; simp only [hq1, hq2, hq3, hq4, hq5, hq6, hq7, hq8, Option.bind_some]; exact kM_ hb _))) fun ⟨⟨c5, d5⟩, hf5, hd5⟩ => ?_
 try dsimp only
 obtain ⟨v9, hq9, rfl⟩ := fi_ hf5
 refine aZ_ (show List.Perm _ ((b2, .cells #[.int .i64 v9] 3 (0, 0)) :: ((db, .cells #[.slice (Dst.ad d5) (List.length (Dst.r d5)) (Dst.cap d5)] 92 (0, 0)) :: ((b1, .cells #[.int .i64 v1, .int .i64 v2, str v3, str v4, str v5, .int .i64 v6, .int .i64 v7, .int .i64 v8, .slice none 0 0] 36 (0, 0)) :: []))) from .refl _) (d_ (b_ rfl (g_ (c_ (a_ (h_ Q_ rfl rfl rfl r_) rfl (a_ (m_ 2 C_ rfl rfl rfl) rfl (a_ (ac_ rfl rfl rfl (aK_ (by first | omega | (have := eP_ hq8; omega)) (by first | omega | (have := eP_ hq8; omega)))) rfl (a_ (h_ Q_ rfl rfl rfl r_) rfl (X_ 2 r_ rfl rfl rfl rfl rfl rfl ?_)))))))))
 refine d_ (b_ rfl (g_ (g_ (c_ (a_ (m_ 0 C_ rfl rfl rfl) rfl (a_ (f_ rfl) rfl (d_ (b_ rfl (ae_ ?_)))))))))
 have hbd := mx_ hq9
 refine bz_ (ι := {y : Nat × List Int × Dst × Value × Hp // (y.1 : Int) ≤ v9 ∧ ej_ (Int.toNat v9) d5.r = (ej_ (Int.toNat v9 - y.1) y.2.2.1.r).map (fun z => (y.2.1 ++ z.1, z.2)) ∧ Dst.ok y.2.2.1 ∧ List.length y.2.1 = y.1 ∧ br_ 3 1 y.2.2.2.1 (List.length y.2.1) (List.flatMap cV_ y.2.1) y.2.2.2.2}) (fun y => [(0, zp_ db 0), (2, zp_ b1 0), (50, .int .i64 v9), (51, .int .i64 (y.1.1 : Int))]) (fun y => ((b1, .cells #[.int .i64 v1, .int .i64 v2, str v3, str v4, str v5, .int .i64 v6, .int .i64 v7, .int .i64 (v8 - 1), y.1.2.2.2.1] 36 (0, 0)) :: ((db, .cells #[.slice (Dst.ad y.1.2.2.1) (List.length (Dst.r y.1.2.2.1)) (Dst.cap y.1.2.2.1)] 92 (0, 0)) :: y.1.2.2.2.2))) (fun y => [aR_ (Dst.ad y.1.2.2.1) (List.flatMap u8C (Dst.r y.1.2.2.1))]) (fun y => Int.toNat v9 - y.1.1) ⟨((0 : Nat), ([] : List Int), d5, (.slice none 0 0), []), (by dsimp only; omega), (by simp), hd5, rfl, (br_.nil _ _)⟩ ⟨rfl, rfl, rfl, rfl, trivial⟩ (N_ (H_ (H_ D_)) (H_ D_)) (fun v _ h => by exact ⟨h.1, trivial⟩) ?_
 rintro ⟨⟨i, l, e, sv_F, H_F⟩, hi, hI, he, hll, hr_F⟩
 dsimp only at hi hI he hll hr_F ⊢
 refine g_ (c_ (E_ (au_ rfl rfl) rfl fun r1 hr1 => ?_))
 refine d_ (b_ rfl (g_ ?_))
 cases r1
 ·
  replace hr1 := of_decide_eq_false hr1
  refine y_ rfl (bi_ rfl (b_ rfl (g_ ?_)))
  have hI9 := nr_ hI (by omega)
  refine dh_ hr_F (H_ aQ_) fun fad fcap hfad hcfad hmfad hzfad => ?_
  subst hfad
  refine c_ (a_ (O_ 0 cx_ as_ rfl rfl rfl) rfl (X_ 0 as_ rfl rfl rfl rfl rfl rfl (d_ (b_ rfl (u_ ?_)))))
  have hfin : fQ_ d.r = some (Stp.ds (Stp.mk v1 (Fc.mk v2 v3 v4 v5 v6 v7) (v8 - 1) fad fcap l), e.r) := by rw [dl_]; simp only [hq1, hq2, hq3, hq4, hq5, hq6, hq7, hq8, hq9, Option.bind_some]; rw [hI9]; rfl
  exact bN_ (fB_ ⟨((Stp.mk v1 (Fc.mk v2 v3 v4 v5 v6 v7) (v8 - 1) fad fcap l), e), hfin, he⟩ (fun aa v h1 h2 => ck_ (us := Stp.cells (Stp.mk v1 (Fc.mk v2 v3 v4 v5 v6 v7) (v8 - 1) fad fcap l)) 0 Tryz.results44 cx_ as_ rfl rfl rfl aa v h1 h2) (H_ D_) (fun v _ h => by exact ⟨h.1, h.2.1, trivial⟩))
 ·
  replace hr1 := of_decide_eq_true hr1
  refine w_ rfl (L_ (b_ rfl (g_ (ae_ ?_))))
  refine cq_ ([]) (by kernel_rfl) ?_
  refine K_ 6 [0, 2] (by kernel_rfl) (fun _ a b => ⟨av_ a, b⟩) (j_ rfl (h_ Q_ rfl rfl rfl bu_) rfl (j_ rfl (f_ rfl) rfl (J_ ?_)))
  refine bT_ 1 3 rfl rfl (by kernel_rfl) ?_ ?_
  ·
   refine a_ (m_ 0 cb_ rfl rfl rfl) rfl (d_ (q_ rfl (A_ (fun _ a b => ⟨av_ a, b⟩) (I_ 3 rfl (by kernel_rfl) (al_ (gh_ db e he) rfl (H_ D_) (fun v _ h => by exact ⟨h.1, trivial⟩) rfl (fun hb => ce_ ((by rw [dl_]; simp only [hq1, hq2, hq3, hq4, hq5, hq6, hq7, hq8, hq9, Option.bind_some]; rw [iq_ hI (by omega) hb]; rfl))) fun ⟨⟨rv, e1⟩, hi1, he1⟩ => ?_)))))
   try dsimp only
   refine d_ (q_ rfl (A_ (fun _ a b => ⟨av_ a, b.2⟩) (I_ 4 rfl (by kernel_rfl) (aX_ az_ r_ cG_ rfl rfl rfl rfl rfl rfl fun b8 => ?_))))
   refine d_ (q_ rfl (A_ (fun _ a b => ⟨av_ a, b.2⟩) (I_ 5 rfl (by kernel_rfl) (bH_ (news := List.flatMap cV_ [rv]) jd_ hr_F rfl rfl (H_ (H_ aQ_)) rfl (cn_ 0 rfl) (fun u hu => bS_ hB_ hu) (by simp only [maxLen]; omega) (by omega) rfl fun sv1 Hr1 hr1 => ?_))))
   refine aZ_ List.perm_append_comm ?_
   have hq1 : br_ 3 1 sv1 (List.length (l ++ [rv])) (List.flatMap cV_ (l ++ [rv])) Hr1 := by rw [List.length_append, List.flatMap_append]; exact hr1
   refine d_ (q_ rfl (A_ (fun _ a b => ⟨av_ a, b.2⟩) (K_ 1 [6] (by kernel_rfl) (fun _ a b => ⟨av_ a, b.2⟩) (j_ rfl (h_ Q_ rfl rfl rfl bu_) rfl (J_ (I_ 7 rfl (by kernel_rfl) (bF_ 2 hq1 bu_ rfl rfl rfl rfl (d_ (q_ rfl ?_)))))))))
   refine A_ (fun _ a b => ⟨av_ a, b.2⟩) (S_ (by kernel_rfl) (b_ rfl (c_ (a_ (ac_ rfl rfl rfl (aK_ (by first | omega | (have := eP_ hq8; omega)) (by first | omega | (have := eP_ hq8; omega)))) rfl (a_ (f_ rfl) rfl (d_ (q_ rfl ?_)))))))
   exact aO_ ⟨(i + 1, (l ++ [rv]), e1, sv1, Hr1), (by omega), gw_ hI (by omega) hi1, he1, (by rw [List.length_append, hll]; rfl), hq1⟩ (by dsimp only; omega) ⟨rfl, rfl, rfl, rfl, trivial⟩ (N_ (H_ (H_ D_)) (N_ (H_ D_) aQ_)) (fun v _ h => by exact ⟨h.1, trivial⟩)
  ·
   refine al_ (gh_ db e he) rfl (H_ D_) (fun v _ h => by exact ⟨h.1, trivial⟩) rfl (fun hb => ce_ ((by rw [dl_]; simp only [hq1, hq2, hq3, hq4, hq5, hq6, hq7, hq8, hq9, Option.bind_some]; rw [iq_ hI (by omega) hb]; rfl))) fun ⟨⟨rv, e1⟩, hi1, he1⟩ => ?_
   try dsimp only
   refine d_ (q_ rfl (A_ (fun _ a b => ⟨av_ a, b.2⟩) ?_))
   refine bT_ 1 4 rfl rfl (by kernel_rfl) ?_ ?_
   ·
    refine a_ (m_ 1 cb_ rfl rfl rfl) rfl (d_ (q_ rfl (A_ (fun _ a b => ⟨av_ a, b.2⟩) (I_ 4 rfl (by kernel_rfl) (aX_ az_ r_ cG_ rfl rfl rfl rfl rfl rfl fun b9 => ?_)))))
    refine d_ (q_ rfl (A_ (fun _ a b => ⟨av_ a, b.2⟩) (I_ 5 rfl (by kernel_rfl) (bH_ (news := List.flatMap cV_ [rv]) jd_ hr_F rfl rfl (H_ (H_ aQ_)) rfl (cn_ 0 rfl) (fun u hu => bS_ hB_ hu) (by simp only [maxLen]; omega) (by omega) rfl fun sv2 Hr2 hr2 => ?_))))
    refine aZ_ List.perm_append_comm ?_
    have hq2 : br_ 3 1 sv2 (List.length (l ++ [rv])) (List.flatMap cV_ (l ++ [rv])) Hr2 := by rw [List.length_append, List.flatMap_append]; exact hr2
    refine d_ (q_ rfl (A_ (fun _ a b => ⟨av_ a, b.2⟩) (K_ 1 [6] (by kernel_rfl) (fun _ a b => ⟨av_ a, b.2⟩) (j_ rfl (h_ Q_ rfl rfl rfl bu_) rfl (J_ (I_ 7 rfl (by kernel_rfl) (bF_ 2 hq2 bu_ rfl rfl rfl rfl (d_ (q_ rfl ?_)))))))))
    refine A_ (fun _ a b => ⟨av_ a, b.2⟩) (S_ (by kernel_rfl) (b_ rfl (c_ (a_ (ac_ rfl rfl rfl (aK_ (by first | omega | (have := eP_ hq8; omega)) (by first | omega | (have := eP_ hq8; omega)))) rfl (a_ (f_ rfl) rfl (d_ (q_ rfl ?_)))))))
    exact aO_ ⟨(i + 1, (l ++ [rv]), e1, sv2, Hr2), (by omega), gw_ hI (by omega) hi1, he1, (by rw [List.length_append, hll]; rfl), hq2⟩ (by dsimp only; omega) ⟨rfl, rfl, rfl, rfl, trivial⟩ (N_ (H_ (H_ D_)) (N_ (H_ D_) aQ_)) (fun v _ h => by exact ⟨h.1, trivial⟩)
   ·
    refine aX_ az_ r_ cG_ rfl rfl rfl rfl rfl rfl fun b10 => ?_
    refine d_ (q_ rfl (A_ (fun _ a b => ⟨av_ a, b.2⟩) (I_ 1 rfl (by kernel_rfl) (a_ (m_ 2 cb_ rfl rfl rfl) rfl (d_ (q_ rfl (A_ (fun _ a b => ⟨av_ a, b.2⟩) (I_ 5 rfl (by kernel_rfl) (bH_ (news := List.flatMap cV_ [rv]) jd_ hr_F rfl rfl (H_ (H_ aQ_)) rfl (cn_ 0 rfl) (fun u hu => bS_ hB_ hu) (by simp only [maxLen]; omega) (by omega) rfl fun sv3 Hr3 hr3 => ?_)))))))))
    refine aZ_ List.perm_append_comm ?_
    have hq3 : br_ 3 1 sv3 (List.length (l ++ [rv])) (List.flatMap cV_ (l ++ [rv])) Hr3 := by rw [List.length_append, List.flatMap_append]; exact hr3
    refine d_ (q_ rfl (A_ (fun _ a b => ⟨av_ a, b.2⟩) (K_ 1 [6] (by kernel_rfl) (fun _ a b => ⟨av_ a, b.2⟩) (j_ rfl (h_ Q_ rfl rfl rfl bu_) rfl (J_ (I_ 7 rfl (by kernel_rfl) (bF_ 2 hq3 bu_ rfl rfl rfl rfl (d_ (q_ rfl ?_)))))))))
    refine A_ (fun _ a b => ⟨av_ a, b.2⟩) (S_ (by kernel_rfl) (b_ rfl (c_ (a_ (ac_ rfl rfl rfl (aK_ (by first | omega | (have := eP_ hq8; omega)) (by first | omega | (have := eP_ hq8; omega)))) rfl (a_ (f_ rfl) rfl (d_ (q_ rfl ?_)))))))
    exact aO_ ⟨(i + 1, (l ++ [rv]), e1, sv3, Hr3), (by omega), gw_ hI (by omega) hi1, he1, (by rw [List.length_append, hll]; rfl), hq3⟩ (by dsimp only; omega) ⟨rfl, rfl, rfl, rfl, trivial⟩ (N_ (H_ (H_ D_)) (N_ (H_ D_) aQ_)) (fun v _ h => by exact ⟨h.1, trivial⟩)
end Go.Proofs.YtaffcjgphlhppaaGreatDoor
