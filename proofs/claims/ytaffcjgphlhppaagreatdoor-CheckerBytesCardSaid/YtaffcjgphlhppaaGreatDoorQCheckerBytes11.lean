/-
  Part of the proof of the law CheckerBytes over this seat: the small logic, the data, the contracts of functions (no condition).
-/
import Derived.Test.YtaffcjgphlhppaaGreatDoorQCheckerBytes10
import Derived.Test.YtaffcjgphlhppaaGreatDoorQCheckerBytes7
set_option linter.unusedVariables false
set_option linter.unusedSimpArgs false
set_option linter.unusedSectionVars false
namespace Go.Proofs.YtaffcjgphlhppaaGreatDoor
open Go Go.Sx Go.Proofs
attribute [local irreducible] Code.wp wpList wpAnyH
open Go.Vs
theorem io_ {α β : Type} (f : α → List β) (n : Nat) (h : ∀ x, (f x).length = n) : ∀ l : List α, (l.flatMap f).length = l.length * n
  | [] => by simp
  | x :: l => by rw [List.flatMap_cons, List.length_append, h, io_ f n h l, List.length_cons, Nat.succ_mul, Nat.add_comm]
theorem nC_ {s : Stp} (h : dI_ s = true) : (bL_ s).length ≤ 198000 := by
  obtain ⟨_, _, _, _, _, _, h7, _, h8, h9, h10⟩ := dH_.1 h
  have e : (s.frm.flatMap fun q => ac_ q 4).length = s.frm.length * 4 := io_ _ 4 (fun q => bf_ q 4) _
  simp only [bL_, aF_, List.length_append, bf_, e]
  omega
theorem ir_ {l : List Stp} (h : ∀ s ∈ l, dI_ s = true) : ∀ i, ((l.take i).flatMap bL_).length ≤ 198000 * i
  | 0 => by simp
  | i + 1 => by
    have ih := ir_ h i
    cases hs : l[i]? with
    | none =>
      have : l.take (i + 1) = l.take i := by rw [List.take_add_one, hs]; simp
      rw [this]; omega
    | some s =>
      have q := nC_ (h s (List.mem_of_getElem? hs))
      rw [List.take_add_one, hs, Option.toList_some, List.flatMap_append, List.length_append, List.flatMap_cons, List.flatMap_nil, List.append_nil]
      omega
theorem text_len {l : List Str} (h : ∀ s ∈ l, s.length ≤ 65535) : ∀ i, ((l.take i).flatMap aF_).length ≤ 65537 * i
  | 0 => by simp
  | i + 1 => by
    have ih := text_len h i
    cases hs : l[i]? with
    | none =>
      have : l.take (i + 1) = l.take i := by rw [List.take_add_one, hs]; simp
      rw [this]; omega
    | some s =>
      have q := h s (List.mem_of_getElem? hs)
      rw [List.take_add_one, hs, Option.toList_some, List.flatMap_append, List.length_append, List.flatMap_cons, List.flatMap_nil, List.append_nil, aF_, List.length_append, bf_]
      omega
theorem mi_ (l : List Int) (i : Nat) (h : l.length ≤ 255) : ((l.take i).flatMap fun q => ac_ q 4).length ≤ 1020 := by
  rw [io_ _ 4 (fun q => bf_ q 4), List.length_take]; omega
theorem oA_ {l : List Stp} {i : Nat} {s : Stp} {tj : List Str} {tk : List Int} (hs : l[i]? = some s) (hj : tj = [s.fact.a, s.fact.b, s.fact.r]) (hk : tk = s.frm) (A : Str) :
    ((((((((A ++ List.flatMap bL_ (List.take i l)) ++ ac_ s.rule 1) ++ ac_ s.fact.kind 1) ++ List.flatMap aF_ tj) ++ ac_ s.fact.lo 8) ++ ac_ s.fact.hi 8) ++ ac_ (s.piece + 1) 4) ++ ac_ (s.frm.length : Int) 1) ++ List.flatMap (fun q => ac_ q 4) tk = A ++ List.flatMap bL_ (List.take (i + 1) l) := by
  subst hj; subst hk
  rw [List.take_add_one, hs]
  simp [bL_, List.append_assoc]
theorem jX_ {α β : Type} {l : List α} {i : Nat} {x : α} (f : α → List β) (hx : l[i]? = some x) (A : List β) : (A ++ List.flatMap f (List.take i l)) ++ f x = A ++ List.flatMap f (List.take (i + 1) l) := by
  rw [List.take_add_one, hx]; simp
theorem oz_ (l : List Stp) (ad : Option Addr) (cap : Nat) (hll : l.length ≤ 10000000) (hfr : ∀ s ∈ l, s.frm.length ≤ 1000000) (hsf : ∀ s ∈ l, s.fact.sml) : Tri Tryz.prog 15 #[.agg #[.slice ad (List.length l) cap]] [] [aY_ ad (List.flatMap Stp.cells l), cP_ l] (fun y : {y : Value × Hp // bi_ 5 1 y.1 (List.length (dm_ l).1) (List.flatMap u8C (dm_ l).1) y.2} => .tuple #[y.1.1, .int .i64 (dm_ l).2]) (fun y => y.1.2) (fun _ => []) := by
 refine S_ Tryz.func15 rfl rfl Tryz.ntmps15 rfl fun v0 => ?_
 refine g_ (c_ (aM_ rfl rfl fun b1 => ?_))
 refine a_ (e_ rfl) rfl (a_ (e_ rfl) rfl (d_ (b_ rfl (g_ (g_ (c_ (a_ (h_ ab_ rfl rfl rfl al_) rfl (a_ (n_ 0 bd_ rfl rfl rfl) rfl (a_ (aA_ af_ rfl) rfl ?_)))))))))
 refine E_ (bp_ rfl rfl) rfl fun r1 hr1 => ?_
 refine d_ (b_ rfl ?_)
 cases r1
 ·
  replace hr1 := of_decide_eq_false hr1
  refine A_ rfl (J_ (b_ rfl (g_ (g_ (c_ (a_ (h_ ab_ rfl rfl rfl al_) rfl (a_ (n_ 0 bd_ rfl rfl rfl) rfl (a_ (aA_ af_ rfl) rfl (a_ (f_ rfl) rfl ?_)))))))))
  refine d_ (b_ rfl (ae_ ?_))
  refine bt_ (ι := {y : Nat // y ≤ List.length l ∧ (∀ s ∈ List.take y l, dI_ s = true)}) (fun y => [(1, zp_ b1 0), (2, .slice none 0 0), (3, .int .i64 0), (18, .slice ad (List.length l) cap), (19, .int .i64 (List.length l : Int)), (20, .int .i64 (y.1 : Int))]) (fun y => ((b1, .cells #[.slice ad (List.length l) cap] 27 (0, 0)) :: [])) (fun y => [aY_ ad (List.flatMap Stp.cells l), cP_ l]) (fun y => List.length l - y.1) ⟨(0 : Nat), by simp, by simp⟩ ⟨rfl, rfl, rfl, rfl, rfl, rfl, trivial⟩ C_ (fun _ _ h => h) ?_
  rintro ⟨i, hi_i, hE0⟩
  dsimp only at hi_i hE0 ⊢
  refine g_ (c_ (E_ (au_ rfl rfl) rfl fun r2 hr2 => ?_))
  refine d_ (b_ rfl (g_ ?_))
  cases r2
  ·
   replace hr2 := of_decide_eq_false hr2
   have hE : ∀ s ∈ l, dI_ s = true := by have z := hE0; rw [List.take_of_length_le (by omega)] at z; exact z
   refine A_ rfl (bj_ rfl (b_ rfl (g_ (c_ (a_ (h_ ab_ rfl rfl rfl al_) rfl (a_ (n_ 0 bd_ rfl rfl rfl) rfl (a_ (aA_ af_ rfl) rfl (K_ (dK_ ([] : Str) (List.length l : Int) 4 (.slice none 0 0) [] (bi_.nil _ _) (by decide) (by simp only [List.length_append, bf_, List.length_nil]; omega)) rfl x_ (fun _ _ _ => by exact trivial) rfl fun ⟨⟨svn1, Hn1⟩, hn1⟩ => ?_))))))))
   dsimp only
   refine a_ (e_ rfl) rfl (d_ (b_ rfl (g_ (as_ (eh_ cD_) (g_ (c_ (a_ (h_ ab_ rfl rfl rfl al_) rfl (a_ (n_ 0 bd_ rfl rfl rfl) rfl (a_ (aA_ af_ rfl) rfl ?_)))))))))
   refine a_ (f_ rfl) rfl (d_ (b_ rfl (ae_ ?_)))
   have hw1 : bi_ 5 1 svn1 (List.length (ac_ (List.length l : Int) 4 ++ List.flatMap bL_ (List.take 0 l))) (List.flatMap u8C (ac_ (List.length l : Int) 4 ++ List.flatMap bL_ (List.take 0 l))) Hn1 := by have q := hn1; rw [show (([] : Str) ++ ac_ (List.length l : Int) 4) = (ac_ (List.length l : Int) 4 ++ List.flatMap bL_ (List.take 0 l)) from (by simp)] at q; exact q
   refine bt_ (ι := {y : Nat × Value × Hp // y.1 ≤ List.length l ∧ bi_ 5 1 y.2.1 (List.length (ac_ (List.length l : Int) 4 ++ List.flatMap bL_ (List.take y.1 l))) (List.flatMap u8C (ac_ (List.length l : Int) 4 ++ List.flatMap bL_ (List.take y.1 l))) y.2.2}) (fun y => [(1, zp_ b1 0), (2, y.1.2.1), (3, .int .i64 0), (33, .slice ad (List.length l) cap), (34, .int .i64 (List.length l : Int)), (35, .int .i64 (y.1.1 : Int))]) (fun y => ((b1, .cells #[.slice ad (List.length l) cap] 27 (0, 0)) :: y.1.2.2)) (fun y => [aY_ ad (List.flatMap Stp.cells l), cP_ l]) (fun y => List.length l - y.1.1) ⟨((0 : Nat), svn1, Hn1), by simp, hw1⟩ ⟨rfl, rfl, rfl, rfl, rfl, rfl, trivial⟩ (N_ C_ cM_) (fun _ _ h => h) ?_
   rintro ⟨⟨i, sv_B, H_B⟩, hi_i, hr_B⟩
   dsimp only at hi_i hr_B ⊢
   have hb1 := ir_ hE i
   refine g_ (c_ (E_ (au_ rfl rfl) rfl fun r3 hr3 => ?_))
   refine d_ (b_ rfl (g_ ?_))
   cases r3
   ·
    replace hr3 := of_decide_eq_false hr3
    refine A_ rfl (bj_ rfl (b_ rfl (g_ (c_ (a_ (f_ rfl) rfl (a_ (e_ rfl) rfl (a_ (e_ rfl) rfl (d_ (b_ rfl ?_)))))))))
    refine u_ ?_
    have he : dm_ l = (jY_ l, 0) := by unfold dm_; rw [if_neg (by omega), if_pos (List.all_eq_true.2 hE)]
    have e5 : (ac_ (List.length l : Int) 4 ++ List.flatMap bL_ (List.take i l)) = jY_ l := by rw [List.take_of_length_le (by omega)]; rfl
    exact lv_ Tryz.results15 ⟨(sv_B, H_B), by rw [he, ← e5]; exact hr_B⟩ rfl rfl (by dsimp only; rw [he]) aK_ (fun _ _ _ => trivial)
   ·
    replace hr3 := of_decide_eq_true hr3
    have hlx1 : i < List.length l := by omega
    obtain ⟨x1, hx1⟩ : ∃ e0, l[i]? = some e0 := ⟨_, List.getElem?_eq_getElem hlx1⟩
    have hmx1 : x1 ∈ l := List.mem_of_getElem? hx1
    obtain ⟨ho1, ho2, ho3, ho4, ho5, ho6, ho7, ho8, ho9, ho10, ho11⟩ := dH_.1 (hE x1 hmx1)
    have hb2 := text_len (l := [(Fc.a (Stp.fact x1)), (Fc.b (Stp.fact x1)), (Fc.r (Stp.fact x1))]) (by intro z hz; simp only [List.mem_cons, List.not_mem_nil, or_false] at hz; rcases hz with rfl | rfl | rfl <;> assumption)
    have hb3 := fun w => mi_ (Stp.frm x1) w ho7
    refine w_ rfl (J_ (b_ rfl (g_ (ae_ (g_ (c_ (a_ (an_ af_ ak_ rfl rfl (fun v _ h => ba_ (n := 9) Stp.cells_len (by decide) (by exact h.1) hx1) (by omega) (by first | omega | (simp; done))) rfl (a_ (aX_ (ad := ad) (us := Stp.cells x1) bY_ ak_ rfl (fun v _ h => by exact h.1) (Stp.cells_len _) (ar_ Stp.cells_len hx1)) rfl (Z_ bb_ rfl fun b2 => ?_)))))))))
    refine Q_ 0 ak_ rfl rfl rfl rfl rfl rfl (d_ (b_ rfl (g_ (c_ (a_ (h_ G_ rfl rfl rfl l_) rfl (a_ (M_ 0 U_ l_ rfl rfl rfl) rfl (Z_ bl_ rfl fun b3 => ?_)))))))
    refine Q_ 0 l_ rfl rfl rfl rfl rfl rfl (d_ (b_ rfl (g_ ?_)))
    refine cn_ ((b3, .cells #[.int .i64 (Fc.kind (Stp.fact x1)), str (Fc.a (Stp.fact x1)), str (Fc.b (Stp.fact x1)), str (Fc.r (Stp.fact x1)), .int .i64 (Fc.lo (Stp.fact x1)), .int .i64 (Fc.hi (Stp.fact x1))] 24 (0, 0)) :: ((b2, .cells #[.int .i64 (Stp.rule x1), .int .i64 (Fc.kind (Stp.fact x1)), str (Fc.a (Stp.fact x1)), str (Fc.b (Stp.fact x1)), str (Fc.r (Stp.fact x1)), .int .i64 (Fc.lo (Stp.fact x1)), .int .i64 (Fc.hi (Stp.fact x1)), .int .i64 (Stp.piece x1), .slice (Stp.ad x1) (List.length (Stp.frm x1)) (Stp.cap x1)] 36 (0, 0)) :: ((b1, .cells #[.slice ad (List.length l) cap] 27 (0, 0)) :: []))) (by kernel_rfl) ?_
    refine P_ 3 [0, 1, 2, 4, 5] (by kernel_rfl) (fun _ a b => ⟨Vw.sat.sub (a.perm (N_ C_ (N_ C_ C_))), b⟩) (m_ rfl (f_ rfl) rfl (m_ rfl (h_ G_ rfl rfl rfl q_) rfl (m_ rfl (n_ 1 B_ rfl rfl rfl) rfl (m_ rfl (h_ o_ rfl rfl rfl q_) rfl (m_ rfl (n_ 0 B_ rfl rfl rfl) rfl (O_ (L_ 3 rfl (by kernel_rfl) (K_ (dK_ (ac_ (List.length l : Int) 4 ++ List.flatMap bL_ (List.take i l)) (Stp.rule x1) 1 sv_B H_B hr_B (by decide) (by simp only [List.length_append, bf_, List.length_nil]; omega)) rfl (F_ (F_ aK_)) (fun _ _ _ => by exact trivial) rfl fun ⟨⟨svn2, Hn2⟩, hn2⟩ => ?_))))))))
    dsimp only
    refine d_ (p_ rfl (D_ (fun _ a b => ⟨Vw.sat.sub (a.perm (N_ (aQ_ C_) (N_ (aQ_ C_) cD_))), b⟩) (L_ 6 rfl (by kernel_rfl) (K_ (dK_ ((ac_ (List.length l : Int) 4 ++ List.flatMap bL_ (List.take i l)) ++ ac_ (Stp.rule x1) 1) (Fc.kind (Stp.fact x1)) 1 svn2 Hn2 hn2 (by decide) (by simp only [List.length_append, bf_, List.length_nil]; omega)) rfl bM_ (fun _ _ _ => by exact trivial) rfl fun ⟨⟨svn3, Hn3⟩, hn3⟩ => ?_))))
    dsimp only
    refine d_ (p_ rfl (D_ (fun _ a b => ⟨Vw.sat.sub (a.perm (N_ (aQ_ C_) (N_ (aQ_ C_) cD_))), b⟩) (P_ 0 [7] (by kernel_rfl) (fun _ a b => ⟨Vw.sat.sub (a.perm (N_ (aQ_ C_) (N_ (aQ_ C_) cD_))), b⟩) (m_ rfl (e_ rfl) rfl (O_ (T_ (by kernel_rfl) (b_ rfl (g_ (as_ (cE_ (aQ_ C_) (cE_ (aQ_ C_) (eh_ cD_))) ?_)))))))))
    refine g_ (c_ (a_ (h_ o_ rfl rfl rfl y_) rfl (a_ (n_ 0 H_ rfl rfl rfl) rfl (a_ (h_ o_ rfl rfl rfl y_) rfl (a_ (n_ 0 H_ rfl rfl rfl) rfl (a_ (h_ o_ rfl rfl rfl y_) rfl (a_ (n_ 0 H_ rfl rfl rfl) rfl (be_ aJ_ y_ Tryz.zeroValue9 rfl rfl rfl rfl rfl rfl fun b4 => ?_))))))))
    refine bU_ (List.flatMap dy_ [(Fc.a (Stp.fact x1)), (Fc.b (Stp.fact x1)), (Fc.r (Stp.fact x1))]) C_ rfl ?_
    refine a_ (aA_ aJ_ rfl) rfl (a_ (f_ rfl) rfl (d_ (b_ rfl (ae_ ?_))))
    have hw2 : bi_ 5 1 svn3 (List.length ((((ac_ (List.length l : Int) 4 ++ List.flatMap bL_ (List.take i l)) ++ ac_ (Stp.rule x1) 1) ++ ac_ (Fc.kind (Stp.fact x1)) 1) ++ List.flatMap aF_ (List.take 0 [(Fc.a (Stp.fact x1)), (Fc.b (Stp.fact x1)), (Fc.r (Stp.fact x1))]))) (List.flatMap u8C ((((ac_ (List.length l : Int) 4 ++ List.flatMap bL_ (List.take i l)) ++ ac_ (Stp.rule x1) 1) ++ ac_ (Fc.kind (Stp.fact x1)) 1) ++ List.flatMap aF_ (List.take 0 [(Fc.a (Stp.fact x1)), (Fc.b (Stp.fact x1)), (Fc.r (Stp.fact x1))]))) Hn3 := by have q := hn3; rw [show (((ac_ (List.length l : Int) 4 ++ List.flatMap bL_ (List.take i l)) ++ ac_ (Stp.rule x1) 1) ++ ac_ (Fc.kind (Stp.fact x1)) 1) = ((((ac_ (List.length l : Int) 4 ++ List.flatMap bL_ (List.take i l)) ++ ac_ (Stp.rule x1) 1) ++ ac_ (Fc.kind (Stp.fact x1)) 1) ++ List.flatMap aF_ (List.take 0 [(Fc.a (Stp.fact x1)), (Fc.b (Stp.fact x1)), (Fc.r (Stp.fact x1))])) from (by simp)] at q; exact q
    refine bt_ (ι := {y : Nat × Value × Hp // y.1 ≤ List.length [(Fc.a (Stp.fact x1)), (Fc.b (Stp.fact x1)), (Fc.r (Stp.fact x1))] ∧ bi_ 5 1 y.2.1 (List.length ((((ac_ (List.length l : Int) 4 ++ List.flatMap bL_ (List.take i l)) ++ ac_ (Stp.rule x1) 1) ++ ac_ (Fc.kind (Stp.fact x1)) 1) ++ List.flatMap aF_ (List.take y.1 [(Fc.a (Stp.fact x1)), (Fc.b (Stp.fact x1)), (Fc.r (Stp.fact x1))]))) (List.flatMap u8C ((((ac_ (List.length l : Int) 4 ++ List.flatMap bL_ (List.take i l)) ++ ac_ (Stp.rule x1) 1) ++ ac_ (Fc.kind (Stp.fact x1)) 1) ++ List.flatMap aF_ (List.take y.1 [(Fc.a (Stp.fact x1)), (Fc.b (Stp.fact x1)), (Fc.r (Stp.fact x1))]))) y.2.2}) (fun y => [(1, zp_ b1 0), (2, y.1.2.1), (3, .int .i64 0), (33, .slice ad (List.length l) cap), (34, .int .i64 (List.length l : Int)), (35, .int .i64 (i : Int)), (7, zp_ b2 0), (8, zp_ b3 0), (54, .slice (some ⟨b4, 0, none⟩) (List.length [(Fc.a (Stp.fact x1)), (Fc.b (Stp.fact x1)), (Fc.r (Stp.fact x1))]) 3), (55, .int .i64 3), (56, .int .i64 (y.1.1 : Int))]) (fun y => ((b3, .cells #[.int .i64 (Fc.kind (Stp.fact x1)), str (Fc.a (Stp.fact x1)), str (Fc.b (Stp.fact x1)), str (Fc.r (Stp.fact x1)), .int .i64 (Fc.lo (Stp.fact x1)), .int .i64 (Fc.hi (Stp.fact x1))] 24 (0, 0)) :: ((b2, .cells #[.int .i64 (Stp.rule x1), .int .i64 (Fc.kind (Stp.fact x1)), str (Fc.a (Stp.fact x1)), str (Fc.b (Stp.fact x1)), str (Fc.r (Stp.fact x1)), .int .i64 (Fc.lo (Stp.fact x1)), .int .i64 (Fc.hi (Stp.fact x1)), .int .i64 (Stp.piece x1), .slice (Stp.ad x1) (List.length (Stp.frm x1)) (Stp.cap x1)] 36 (0, 0)) :: ((b1, .cells #[.slice ad (List.length l) cap] 27 (0, 0)) :: y.1.2.2)))) (fun y => [aY_ (some ⟨b4, 0, none⟩) (List.flatMap dy_ [(Fc.a (Stp.fact x1)), (Fc.b (Stp.fact x1)), (Fc.r (Stp.fact x1))]), aY_ ad (List.flatMap Stp.cells l), cP_ l]) (fun y => List.length [(Fc.a (Stp.fact x1)), (Fc.b (Stp.fact x1)), (Fc.r (Stp.fact x1))] - y.1.1) ⟨((0 : Nat), svn3, Hn3), by simp, hw2⟩ ⟨rfl, rfl, rfl, rfl, rfl, rfl, rfl, rfl, rfl, rfl, rfl, trivial⟩ (N_ C_ (N_ C_ (N_ C_ cM_))) (fun _ _ h => h) ?_
    rintro ⟨⟨j, sv_B, H_B⟩, hi_j, hr_B⟩
    dsimp only at hi_j hr_B ⊢
    refine g_ (c_ (E_ (au_ rfl rfl) rfl fun r4 hr4 => ?_))
    refine d_ (b_ rfl (g_ ?_))
    cases r4
    ·
     replace hr4 := of_decide_eq_false hr4
     have e3 : List.take j [(Fc.a (Stp.fact x1)), (Fc.b (Stp.fact x1)), (Fc.r (Stp.fact x1))] = [(Fc.a (Stp.fact x1)), (Fc.b (Stp.fact x1)), (Fc.r (Stp.fact x1))] := List.take_of_length_le (show 3 ≤ j by omega)
     have hb4 := hb2 j; have hj3 : j ≤ 3 := hi_j
     refine A_ rfl (bj_ rfl (b_ rfl (g_ ?_)))
     refine cn_ ((b3, .cells #[.int .i64 (Fc.kind (Stp.fact x1)), str (Fc.a (Stp.fact x1)), str (Fc.b (Stp.fact x1)), str (Fc.r (Stp.fact x1)), .int .i64 (Fc.lo (Stp.fact x1)), .int .i64 (Fc.hi (Stp.fact x1))] 24 (0, 0)) :: ((b2, .cells #[.int .i64 (Stp.rule x1), .int .i64 (Fc.kind (Stp.fact x1)), str (Fc.a (Stp.fact x1)), str (Fc.b (Stp.fact x1)), str (Fc.r (Stp.fact x1)), .int .i64 (Fc.lo (Stp.fact x1)), .int .i64 (Fc.hi (Stp.fact x1)), .int .i64 (Stp.piece x1), .slice (Stp.ad x1) (List.length (Stp.frm x1)) (Stp.cap x1)] 36 (0, 0)) :: ((b1, .cells #[.slice ad (List.length l) cap] 27 (0, 0)) :: []))) (by kernel_rfl) ?_
     refine P_ 3 [0, 1, 2, 4, 5] (by kernel_rfl) (fun _ a b => ⟨Vw.sat.sub (a.perm (N_ C_ (N_ C_ C_))), b⟩) (m_ rfl (f_ rfl) rfl (m_ rfl (h_ o_ rfl rfl rfl q_) rfl (m_ rfl (n_ 0 B_ rfl rfl rfl) rfl (m_ rfl (h_ o_ rfl rfl rfl q_) rfl (m_ rfl (n_ 0 B_ rfl rfl rfl) rfl (O_ (L_ 3 rfl (by kernel_rfl) (K_ (dK_ ((((ac_ (List.length l : Int) 4 ++ List.flatMap bL_ (List.take i l)) ++ ac_ (Stp.rule x1) 1) ++ ac_ (Fc.kind (Stp.fact x1)) 1) ++ List.flatMap aF_ (List.take j [(Fc.a (Stp.fact x1)), (Fc.b (Stp.fact x1)), (Fc.r (Stp.fact x1))])) (Fc.lo (Stp.fact x1)) 8 sv_B H_B hr_B (by decide) (by simp only [List.length_append, bf_, List.length_nil]; omega)) rfl (F_ (F_ aK_)) (fun _ _ _ => by exact trivial) rfl fun ⟨⟨svn4, Hn4⟩, hn4⟩ => ?_))))))))
     dsimp only
     refine d_ (p_ rfl (D_ (fun _ a b => ⟨Vw.sat.sub (a.perm (N_ (aQ_ C_) (N_ (aQ_ C_) cD_))), b⟩) (L_ 6 rfl (by kernel_rfl) (K_ (dK_ (((((ac_ (List.length l : Int) 4 ++ List.flatMap bL_ (List.take i l)) ++ ac_ (Stp.rule x1) 1) ++ ac_ (Fc.kind (Stp.fact x1)) 1) ++ List.flatMap aF_ (List.take j [(Fc.a (Stp.fact x1)), (Fc.b (Stp.fact x1)), (Fc.r (Stp.fact x1))])) ++ ac_ (Fc.lo (Stp.fact x1)) 8) (Fc.hi (Stp.fact x1)) 8 svn4 Hn4 hn4 (by decide) (by simp only [List.length_append, bf_, List.length_nil]; omega)) rfl bM_ (fun _ _ _ => by exact trivial) rfl fun ⟨⟨svn5, Hn5⟩, hn5⟩ => ?_))))
     dsimp only
     refine d_ (p_ rfl (D_ (fun _ a b => ⟨Vw.sat.sub (a.perm (N_ (aQ_ C_) (N_ (aQ_ C_) cD_))), b⟩) (P_ 0 [7] (by kernel_rfl) (fun _ a b => ⟨Vw.sat.sub (a.perm (N_ (aQ_ C_) (N_ (aQ_ C_) cD_))), b⟩) (m_ rfl (e_ rfl) rfl (O_ (T_ (by kernel_rfl) (b_ rfl (as_ (cE_ (aQ_ C_) (cE_ (aQ_ C_) (eh_ cD_))) (g_ ?_)))))))))
     refine cn_ ((b3, .cells #[.int .i64 (Fc.kind (Stp.fact x1)), str (Fc.a (Stp.fact x1)), str (Fc.b (Stp.fact x1)), str (Fc.r (Stp.fact x1)), .int .i64 (Fc.lo (Stp.fact x1)), .int .i64 (Fc.hi (Stp.fact x1))] 24 (0, 0)) :: ((b2, .cells #[.int .i64 (Stp.rule x1), .int .i64 (Fc.kind (Stp.fact x1)), str (Fc.a (Stp.fact x1)), str (Fc.b (Stp.fact x1)), str (Fc.r (Stp.fact x1)), .int .i64 (Fc.lo (Stp.fact x1)), .int .i64 (Fc.hi (Stp.fact x1)), .int .i64 (Stp.piece x1), .slice (Stp.ad x1) (List.length (Stp.frm x1)) (Stp.cap x1)] 36 (0, 0)) :: ((b1, .cells #[.slice ad (List.length l) cap] 27 (0, 0)) :: []))) (by kernel_rfl) ?_
     refine P_ 3 [0, 1, 2, 3, 5, 6, 7] (by kernel_rfl) (fun _ a b => ⟨Vw.sat.sub (a.perm (N_ C_ (N_ C_ C_))), b⟩) (m_ rfl (f_ rfl) rfl (m_ rfl (h_ G_ rfl rfl rfl q_) rfl (m_ rfl (n_ 1 B_ rfl rfl rfl) rfl (m_ rfl (ag_ rfl rfl rfl (aS_ (by omega) (by omega))) rfl (m_ rfl (h_ G_ rfl rfl rfl bc_) rfl (m_ rfl (n_ 1 bz_ rfl rfl rfl) rfl (m_ rfl (aA_ aj_ rfl) rfl (O_ (L_ 4 rfl (by kernel_rfl) ?_)))))))))
     refine K_ (dK_ ((((((ac_ (List.length l : Int) 4 ++ List.flatMap bL_ (List.take i l)) ++ ac_ (Stp.rule x1) 1) ++ ac_ (Fc.kind (Stp.fact x1)) 1) ++ List.flatMap aF_ (List.take j [(Fc.a (Stp.fact x1)), (Fc.b (Stp.fact x1)), (Fc.r (Stp.fact x1))])) ++ ac_ (Fc.lo (Stp.fact x1)) 8) ++ ac_ (Fc.hi (Stp.fact x1)) 8) ((Stp.piece x1) + 1) 4 svn5 Hn5 hn5 (by decide) (by simp only [List.length_append, bf_, List.length_nil]; omega)) rfl (F_ (F_ aK_)) (fun _ _ _ => by exact trivial) rfl fun ⟨⟨svn6, Hn6⟩, hn6⟩ => ?_
     dsimp only
     refine d_ (p_ rfl (D_ (fun _ a b => ⟨Vw.sat.sub (a.perm (N_ (aQ_ C_) (N_ (aQ_ C_) cD_))), b⟩) (L_ 8 rfl (by kernel_rfl) (K_ (dK_ (((((((ac_ (List.length l : Int) 4 ++ List.flatMap bL_ (List.take i l)) ++ ac_ (Stp.rule x1) 1) ++ ac_ (Fc.kind (Stp.fact x1)) 1) ++ List.flatMap aF_ (List.take j [(Fc.a (Stp.fact x1)), (Fc.b (Stp.fact x1)), (Fc.r (Stp.fact x1))])) ++ ac_ (Fc.lo (Stp.fact x1)) 8) ++ ac_ (Fc.hi (Stp.fact x1)) 8) ++ ac_ ((Stp.piece x1) + 1) 4) (List.length (Stp.frm x1) : Int) 1 svn6 Hn6 hn6 (by decide) (by simp only [List.length_append, bf_, List.length_nil]; omega)) rfl bM_ (fun _ _ _ => by exact trivial) rfl fun ⟨⟨svn7, Hn7⟩, hn7⟩ => ?_))))
     dsimp only
     refine d_ (p_ rfl (D_ (fun _ a b => ⟨Vw.sat.sub (a.perm (N_ (aQ_ C_) (N_ (aQ_ C_) cD_))), b⟩) (P_ 0 [9] (by kernel_rfl) (fun _ a b => ⟨Vw.sat.sub (a.perm (N_ (aQ_ C_) (N_ (aQ_ C_) cD_))), b⟩) (m_ rfl (e_ rfl) rfl (O_ (T_ (by kernel_rfl) (b_ rfl (as_ (cE_ (aQ_ C_) (cE_ (aQ_ C_) (eh_ cD_))) (g_ ?_)))))))))
     refine c_ (a_ (h_ G_ rfl rfl rfl bc_) rfl (a_ (n_ 1 bz_ rfl rfl rfl) rfl (a_ (aA_ aj_ rfl) rfl (a_ (f_ rfl) rfl (d_ (b_ rfl (ae_ ?_)))))))
     have hw3 : bi_ 5 1 svn7 (List.length (((((((((ac_ (List.length l : Int) 4 ++ List.flatMap bL_ (List.take i l)) ++ ac_ (Stp.rule x1) 1) ++ ac_ (Fc.kind (Stp.fact x1)) 1) ++ List.flatMap aF_ (List.take j [(Fc.a (Stp.fact x1)), (Fc.b (Stp.fact x1)), (Fc.r (Stp.fact x1))])) ++ ac_ (Fc.lo (Stp.fact x1)) 8) ++ ac_ (Fc.hi (Stp.fact x1)) 8) ++ ac_ ((Stp.piece x1) + 1) 4) ++ ac_ (List.length (Stp.frm x1) : Int) 1) ++ List.flatMap (fun q => ac_ q 4) (List.take 0 (Stp.frm x1)))) (List.flatMap u8C (((((((((ac_ (List.length l : Int) 4 ++ List.flatMap bL_ (List.take i l)) ++ ac_ (Stp.rule x1) 1) ++ ac_ (Fc.kind (Stp.fact x1)) 1) ++ List.flatMap aF_ (List.take j [(Fc.a (Stp.fact x1)), (Fc.b (Stp.fact x1)), (Fc.r (Stp.fact x1))])) ++ ac_ (Fc.lo (Stp.fact x1)) 8) ++ ac_ (Fc.hi (Stp.fact x1)) 8) ++ ac_ ((Stp.piece x1) + 1) 4) ++ ac_ (List.length (Stp.frm x1) : Int) 1) ++ List.flatMap (fun q => ac_ q 4) (List.take 0 (Stp.frm x1)))) Hn7 := by have q := hn7; rw [show ((((((((ac_ (List.length l : Int) 4 ++ List.flatMap bL_ (List.take i l)) ++ ac_ (Stp.rule x1) 1) ++ ac_ (Fc.kind (Stp.fact x1)) 1) ++ List.flatMap aF_ (List.take j [(Fc.a (Stp.fact x1)), (Fc.b (Stp.fact x1)), (Fc.r (Stp.fact x1))])) ++ ac_ (Fc.lo (Stp.fact x1)) 8) ++ ac_ (Fc.hi (Stp.fact x1)) 8) ++ ac_ ((Stp.piece x1) + 1) 4) ++ ac_ (List.length (Stp.frm x1) : Int) 1) = (((((((((ac_ (List.length l : Int) 4 ++ List.flatMap bL_ (List.take i l)) ++ ac_ (Stp.rule x1) 1) ++ ac_ (Fc.kind (Stp.fact x1)) 1) ++ List.flatMap aF_ (List.take j [(Fc.a (Stp.fact x1)), (Fc.b (Stp.fact x1)), (Fc.r (Stp.fact x1))])) ++ ac_ (Fc.lo (Stp.fact x1)) 8) ++ ac_ (Fc.hi (Stp.fact x1)) 8) ++ ac_ ((Stp.piece x1) + 1) 4) ++ ac_ (List.length (Stp.frm x1) : Int) 1) ++ List.flatMap (fun q => ac_ q 4) (List.take 0 (Stp.frm x1))) from (by simp)] at q; exact q
     refine bt_ (ι := {y : Nat × Value × Hp // y.1 ≤ List.length (Stp.frm x1) ∧ bi_ 5 1 y.2.1 (List.length (((((((((ac_ (List.length l : Int) 4 ++ List.flatMap bL_ (List.take i l)) ++ ac_ (Stp.rule x1) 1) ++ ac_ (Fc.kind (Stp.fact x1)) 1) ++ List.flatMap aF_ (List.take j [(Fc.a (Stp.fact x1)), (Fc.b (Stp.fact x1)), (Fc.r (Stp.fact x1))])) ++ ac_ (Fc.lo (Stp.fact x1)) 8) ++ ac_ (Fc.hi (Stp.fact x1)) 8) ++ ac_ ((Stp.piece x1) + 1) 4) ++ ac_ (List.length (Stp.frm x1) : Int) 1) ++ List.flatMap (fun q => ac_ q 4) (List.take y.1 (Stp.frm x1)))) (List.flatMap u8C (((((((((ac_ (List.length l : Int) 4 ++ List.flatMap bL_ (List.take i l)) ++ ac_ (Stp.rule x1) 1) ++ ac_ (Fc.kind (Stp.fact x1)) 1) ++ List.flatMap aF_ (List.take j [(Fc.a (Stp.fact x1)), (Fc.b (Stp.fact x1)), (Fc.r (Stp.fact x1))])) ++ ac_ (Fc.lo (Stp.fact x1)) 8) ++ ac_ (Fc.hi (Stp.fact x1)) 8) ++ ac_ ((Stp.piece x1) + 1) 4) ++ ac_ (List.length (Stp.frm x1) : Int) 1) ++ List.flatMap (fun q => ac_ q 4) (List.take y.1 (Stp.frm x1)))) y.2.2}) (fun y => [(1, zp_ b1 0), (2, y.1.2.1), (3, .int .i64 0), (33, .slice ad (List.length l) cap), (34, .int .i64 (List.length l : Int)), (35, .int .i64 (i : Int)), (7, zp_ b2 0), (8, zp_ b3 0), (54, .slice (some ⟨b4, 0, none⟩) (List.length [(Fc.a (Stp.fact x1)), (Fc.b (Stp.fact x1)), (Fc.r (Stp.fact x1))]) 3), (55, .int .i64 3), (56, .int .i64 (j : Int)), (84, .slice (Stp.ad x1) (List.length (Stp.frm x1)) (Stp.cap x1)), (85, .int .i64 (List.length (Stp.frm x1) : Int)), (86, .int .i64 (y.1.1 : Int))]) (fun y => ((b3, .cells #[.int .i64 (Fc.kind (Stp.fact x1)), str (Fc.a (Stp.fact x1)), str (Fc.b (Stp.fact x1)), str (Fc.r (Stp.fact x1)), .int .i64 (Fc.lo (Stp.fact x1)), .int .i64 (Fc.hi (Stp.fact x1))] 24 (0, 0)) :: ((b2, .cells #[.int .i64 (Stp.rule x1), .int .i64 (Fc.kind (Stp.fact x1)), str (Fc.a (Stp.fact x1)), str (Fc.b (Stp.fact x1)), str (Fc.r (Stp.fact x1)), .int .i64 (Fc.lo (Stp.fact x1)), .int .i64 (Fc.hi (Stp.fact x1)), .int .i64 (Stp.piece x1), .slice (Stp.ad x1) (List.length (Stp.frm x1)) (Stp.cap x1)] 36 (0, 0)) :: ((b1, .cells #[.slice ad (List.length l) cap] 27 (0, 0)) :: y.1.2.2)))) (fun y => [aY_ (some ⟨b4, 0, none⟩) (List.flatMap dy_ [(Fc.a (Stp.fact x1)), (Fc.b (Stp.fact x1)), (Fc.r (Stp.fact x1))]), aY_ ad (List.flatMap Stp.cells l), cP_ l]) (fun y => List.length (Stp.frm x1) - y.1.1) ⟨((0 : Nat), svn7, Hn7), by simp, hw3⟩ ⟨rfl, rfl, rfl, rfl, rfl, rfl, rfl, rfl, rfl, rfl, rfl, rfl, rfl, rfl, trivial⟩ (N_ C_ (N_ C_ (N_ C_ cM_))) (fun _ _ h => h) ?_
     rintro ⟨⟨k, sv_B, H_B⟩, hi_k, hr_B⟩
     dsimp only at hi_k hr_B ⊢
     refine g_ (c_ (E_ (au_ rfl rfl) rfl fun r5 hr5 => ?_))
     refine d_ (b_ rfl (g_ ?_))
     cases r5
     ·
      replace hr5 := of_decide_eq_false hr5
      have e4 : List.take k (Stp.frm x1) = Stp.frm x1 := List.take_of_length_le (by omega)
      refine A_ rfl (bj_ rfl (b_ rfl (c_ (a_ (ag_ rfl rfl rfl (aS_ (by omega) (by omega))) rfl (a_ (f_ rfl) rfl (d_ (p_ rfl ?_)))))))
      exact aU_ ⟨(i + 1, sv_B, H_B), hlx1, (by have z := hr_B; rw [show (((((((((ac_ (List.length l : Int) 4 ++ List.flatMap bL_ (List.take i l)) ++ ac_ (Stp.rule x1) 1) ++ ac_ (Fc.kind (Stp.fact x1)) 1) ++ List.flatMap aF_ (List.take j [(Fc.a (Stp.fact x1)), (Fc.b (Stp.fact x1)), (Fc.r (Stp.fact x1))])) ++ ac_ (Fc.lo (Stp.fact x1)) 8) ++ ac_ (Fc.hi (Stp.fact x1)) 8) ++ ac_ ((Stp.piece x1) + 1) 4) ++ ac_ (List.length (Stp.frm x1) : Int) 1) ++ List.flatMap (fun q => ac_ q 4) (List.take k (Stp.frm x1))) = _ from oA_ hx1 e3 e4 (ac_ (List.length l : Int) 4)] at z; exact z)⟩ (by dsimp only; omega) ⟨rfl, rfl, rfl, rfl, rfl, rfl, trivial⟩ (N_ (F_ (F_ C_)) (F_ aK_)) (fun _ _ h => h.2)
     ·
      replace hr5 := of_decide_eq_true hr5
      have hlx3 : k < List.length (Stp.frm x1) := by omega
      obtain ⟨x3, hx3⟩ : ∃ e0, (Stp.frm x1)[k]? = some e0 := ⟨_, List.getElem?_eq_getElem hlx3⟩
      have hmx3 : x3 ∈ (Stp.frm x1) := List.mem_of_getElem? hx3
      have hb5 := hb3 k
      refine w_ rfl (J_ (b_ rfl (g_ (ae_ (g_ (c_ (a_ (an_ aj_ q_ rfl rfl (fun v _ h => ba_ (n := 1) cu_ (by decide) (by exact (h.2.2.1 x1 hmx1)) hx3) (by omega) (by first | omega | (simp; done))) rfl (a_ (bE_ (ad := (Stp.ad x1)) B_ rfl (fun v _ h => by exact (h.2.2.1 x1 hmx1)) (ar_ cu_ hx3 0 _ rfl)) rfl (a_ (e_ rfl) rfl ?_)))))))))
      refine d_ (b_ rfl (c_ (a_ (f_ rfl) rfl (a_ (f_ rfl) rfl (K_ (dK_ (((((((((ac_ (List.length l : Int) 4 ++ List.flatMap bL_ (List.take i l)) ++ ac_ (Stp.rule x1) 1) ++ ac_ (Fc.kind (Stp.fact x1)) 1) ++ List.flatMap aF_ (List.take j [(Fc.a (Stp.fact x1)), (Fc.b (Stp.fact x1)), (Fc.r (Stp.fact x1))])) ++ ac_ (Fc.lo (Stp.fact x1)) 8) ++ ac_ (Fc.hi (Stp.fact x1)) 8) ++ ac_ ((Stp.piece x1) + 1) 4) ++ ac_ (List.length (Stp.frm x1) : Int) 1) ++ List.flatMap (fun q => ac_ q 4) (List.take k (Stp.frm x1))) x3 4 sv_B H_B hr_B (by decide) (by simp only [List.length_append, bf_, List.length_nil]; omega)) rfl (F_ (F_ aK_)) (fun _ _ _ => by exact trivial) rfl fun ⟨⟨svn8, Hn8⟩, hn8⟩ => ?_)))))
      dsimp only
      refine a_ (e_ rfl) rfl (d_ (b_ rfl (as_ (cE_ (aQ_ C_) (cE_ (aQ_ C_) (eh_ cD_))) (c_ (a_ (ag_ rfl rfl rfl (aS_ (by omega) (by omega))) rfl (a_ (f_ rfl) rfl (d_ (p_ rfl ?_))))))))
      exact aU_ ⟨(k + 1, svn8, Hn8), hlx3, (by have z := hn8; rw [show ((((((((((ac_ (List.length l : Int) 4 ++ List.flatMap bL_ (List.take i l)) ++ ac_ (Stp.rule x1) 1) ++ ac_ (Fc.kind (Stp.fact x1)) 1) ++ List.flatMap aF_ (List.take j [(Fc.a (Stp.fact x1)), (Fc.b (Stp.fact x1)), (Fc.r (Stp.fact x1))])) ++ ac_ (Fc.lo (Stp.fact x1)) 8) ++ ac_ (Fc.hi (Stp.fact x1)) 8) ++ ac_ ((Stp.piece x1) + 1) 4) ++ ac_ (List.length (Stp.frm x1) : Int) 1) ++ List.flatMap (fun q => ac_ q 4) (List.take k (Stp.frm x1))) ++ ac_ x3 4) = _ from jX_ (fun q => ac_ q 4) hx3 ((((((((ac_ (List.length l : Int) 4 ++ List.flatMap bL_ (List.take i l)) ++ ac_ (Stp.rule x1) 1) ++ ac_ (Fc.kind (Stp.fact x1)) 1) ++ List.flatMap aF_ (List.take j [(Fc.a (Stp.fact x1)), (Fc.b (Stp.fact x1)), (Fc.r (Stp.fact x1))])) ++ ac_ (Fc.lo (Stp.fact x1)) 8) ++ ac_ (Fc.hi (Stp.fact x1)) 8) ++ ac_ ((Stp.piece x1) + 1) 4) ++ ac_ (List.length (Stp.frm x1) : Int) 1)] at z; exact z)⟩ (by dsimp only; omega) ⟨rfl, rfl, rfl, rfl, rfl, rfl, rfl, rfl, rfl, rfl, rfl, rfl, rfl, rfl, trivial⟩ (N_ C_ (N_ C_ (N_ C_ cM_))) (fun _ _ h => h)
    ·
     replace hr4 := of_decide_eq_true hr4
     have hlx2 : j < List.length [(Fc.a (Stp.fact x1)), (Fc.b (Stp.fact x1)), (Fc.r (Stp.fact x1))] := (show j < 3 by omega)
     obtain ⟨x2, hx2⟩ : ∃ e0, [(Fc.a (Stp.fact x1)), (Fc.b (Stp.fact x1)), (Fc.r (Stp.fact x1))][j]? = some e0 := ⟨_, List.getElem?_eq_getElem hlx2⟩
     have hmx2 : x2 ∈ [(Fc.a (Stp.fact x1)), (Fc.b (Stp.fact x1)), (Fc.r (Stp.fact x1))] := List.mem_of_getElem? hx2
     have ht2 : List.length x2 ≤ 65535 := by simp only [List.mem_cons, List.not_mem_nil, or_false] at hmx2; rcases hmx2 with rfl | rfl | rfl <;> assumption
     have hb4 := hb2 j; have hj3 : j < 3 := by omega
     refine w_ rfl (J_ (b_ rfl (g_ (ae_ (g_ (c_ (a_ (an_ aJ_ y_ rfl rfl (fun v _ h => ba_ (n := 1) cs_ (by decide) (by exact h.1) hx2) (by omega) (by first | omega | (simp; done))) rfl (a_ (bE_ (ad := (some ⟨b4, 0, none⟩)) H_ rfl (fun v _ h => by exact h.1) (ar_ cs_ hx2 0 _ rfl)) rfl (a_ (e_ rfl) rfl ?_)))))))))
     refine d_ (b_ rfl (c_ (a_ (f_ rfl) rfl (a_ (f_ rfl) rfl (a_ (cd_ aa_ rfl) rfl (K_ (dK_ ((((ac_ (List.length l : Int) 4 ++ List.flatMap bL_ (List.take i l)) ++ ac_ (Stp.rule x1) 1) ++ ac_ (Fc.kind (Stp.fact x1)) 1) ++ List.flatMap aF_ (List.take j [(Fc.a (Stp.fact x1)), (Fc.b (Stp.fact x1)), (Fc.r (Stp.fact x1))])) (x2.length : Int) 2 sv_B H_B hr_B (by decide) (by simp only [List.length_append, bf_, List.length_nil]; omega)) rfl (F_ (F_ aK_)) (fun _ _ _ => by exact trivial) rfl fun ⟨⟨svn9, Hn9⟩, hn9⟩ => ?_))))))
     dsimp only
     refine a_ (f_ rfl) rfl (fY_ oB_ hn9 rfl rfl bM_ (by simp only [List.length_append, bf_, List.length_nil]; omega) rfl fun sv4 Hr4 hr4 => ?_)
     refine as_ List.perm_append_comm (a_ (e_ rfl) rfl (d_ (b_ rfl (c_ (a_ (ag_ rfl rfl rfl (aS_ (by omega) (by omega))) rfl (a_ (f_ rfl) rfl (d_ (p_ rfl ?_))))))))
     exact aU_ ⟨(j + 1, sv4, Hr4), hlx2, (by have z := hr4; rw [show ((((((ac_ (List.length l : Int) 4 ++ List.flatMap bL_ (List.take i l)) ++ ac_ (Stp.rule x1) 1) ++ ac_ (Fc.kind (Stp.fact x1)) 1) ++ List.flatMap aF_ (List.take j [(Fc.a (Stp.fact x1)), (Fc.b (Stp.fact x1)), (Fc.r (Stp.fact x1))])) ++ ac_ (x2.length : Int) 2) ++ x2) = _ from (List.append_assoc _ _ _).trans (jX_ aF_ hx2 (((ac_ (List.length l : Int) 4 ++ List.flatMap bL_ (List.take i l)) ++ ac_ (Stp.rule x1) 1) ++ ac_ (Fc.kind (Stp.fact x1)) 1))] at z; exact z)⟩ (by dsimp only; omega) ⟨rfl, rfl, rfl, rfl, rfl, rfl, rfl, rfl, rfl, rfl, rfl, trivial⟩ (N_ C_ (N_ C_ (N_ C_ cM_))) (fun _ _ h => h)
  ·
   replace hr2 := of_decide_eq_true hr2
   have hlx1 : i < List.length l := by omega
   obtain ⟨x1, hx1⟩ : ∃ e0, l[i]? = some e0 := ⟨_, List.getElem?_eq_getElem hlx1⟩
   have hmx1 : x1 ∈ l := List.mem_of_getElem? hx1
   refine w_ rfl (J_ (b_ rfl (g_ (ae_ (g_ (c_ (a_ (an_ af_ ak_ rfl rfl (fun v _ h => ba_ (n := 9) Stp.cells_len (by decide) (by exact h.1) hx1) (by omega) (by first | omega | (simp; done))) rfl (a_ (aX_ (ad := ad) (us := Stp.cells x1) bY_ ak_ rfl (fun v _ h => by exact h.1) (Stp.cells_len _) (ar_ Stp.cells_len hx1)) rfl (Z_ bb_ rfl fun b5 => ?_)))))))))
   refine Q_ 0 ak_ rfl rfl rfl rfl rfl rfl (d_ (b_ rfl (g_ (c_ (a_ (M_ 0 bY_ ak_ rfl rfl rfl) rfl (ah_ (pC_ x1 (hfr x1 hmx1) (hsf x1 hmx1)) rfl x_ (fun v _ h => by exact ⟨(h.2.1 x1 hmx1), trivial⟩) rfl fun r6 hr6 => ?_))))))
   refine a_ (bu_ rfl) rfl (d_ (b_ rfl ?_))
   cases r6
   ·
    refine w_ rfl (g_ (c_ (a_ (e_ rfl) rfl (a_ (e_ rfl) rfl (d_ (b_ rfl (u_ ?_)))))))
    have he : dm_ l = ([], 120) := by unfold dm_; rw [if_neg (by omega), if_neg (fun z => by have := List.all_eq_true.1 z x1 hmx1; simp_all)]
    exact lv_ Tryz.results15 ⟨(.slice none 0 0, []), by rw [he]; exact bi_.nil _ _⟩ rfl rfl (by dsimp only; rw [he]) x_ (fun _ _ _ => trivial)
   ·
    refine A_ rfl (J_ (b_ rfl (c_ (a_ (ag_ rfl rfl rfl (aS_ (by omega) (by omega))) rfl (a_ (f_ rfl) rfl (d_ (p_ rfl ?_)))))))
    exact aU_ ⟨i + 1, hlx1, fun u hu => by rw [List.take_add_one, hx1] at hu; rcases List.mem_append.1 hu with z | z; exact hE0 u z; simp only [Option.toList_some, List.mem_singleton] at z; subst z; assumption⟩ (by dsimp only; omega) ⟨rfl, rfl, rfl, rfl, rfl, rfl, trivial⟩ (F_ C_) (fun _ _ h => h)
 ·
  replace hr1 := of_decide_eq_true hr1
  refine w_ rfl (g_ (c_ (a_ (e_ rfl) rfl (a_ (e_ rfl) rfl (d_ (b_ rfl (u_ ?_)))))))
  have he : dm_ l = ([], 2) := by unfold dm_; rw [if_pos (by omega)]
  exact lv_ Tryz.results15 ⟨(.slice none 0 0, []), by rw [he]; exact bi_.nil _ _⟩ rfl rfl (by dsimp only; rw [he]) x_ (fun _ _ _ => trivial)
end Go.Proofs.YtaffcjgphlhppaaGreatDoor
namespace Go.Proofs.YtaffcjgphlhppaaGreatDoor
open Go Go.Sx Go.Proofs
attribute [local irreducible] Code.wp wpList wpAnyH
open Go.Vs
structure NewE where
  g : Nat
  pb : Nat
  kb : Nat
  ab : Nat
  ub : Nat
  ob : Nat
  ib : Nat
  rb : Nat
  sb : Nat
  fb : Nat
  lv : Value
  hm : Hp
  hl : Hp
def NewE.ok (ps : List Pc) (y : NewE) : Prop := iC_ Ky.val Pc.cells 73 10 (pmOf ps) y.pb y.hm ∧ bi_ 9 1 y.lv (List.length (ml_ ps)) (List.flatMap dy_ (ml_ ps)) y.hl
def NewE.own (y : NewE) : Hp := (y.g, .cells #[.map (some y.pb), y.lv, .map (some y.kb), .nilFunc, .map (some y.ab), .map (some y.ub), .map (some y.ob), .map (some y.ib), .map (some y.rb), .map (some y.sb), .map (some y.fb)] 111 (0, 0)) :: (y.kb, .map #[] 0) :: (y.ab, .map #[] 0) :: (y.ub, .map #[] 0) :: (y.ob, .map #[] 0) :: (y.ib, .map #[] 0) :: (y.rb, .map #[] 0) :: (y.sb, .map #[] 0) :: (y.fb, .map #[] 0) :: (y.hm ++ y.hl)
end Go.Proofs.YtaffcjgphlhppaaGreatDoor
namespace Go.Proofs.YtaffcjgphlhppaaGreatDoor
open Go Go.Sx Go.Proofs
attribute [local irreducible] Code.wp wpList wpAnyH
open Go.Vs
theorem lg_ (db : Nat) (d : Dst) (n : Nat) (hd : d.ok) (hn : n < 140737488355328) : TriX Tryz.prog 159 #[zp_ db 0, .int .i64 (n : Int)] [(db, .cells #[.slice (Dst.ad d) (List.length (Dst.r d)) (Dst.cap d)] 92 (0, 0))] [aY_ (Dst.ad d) (List.flatMap u8C (Dst.r d))] (fun y : {y : (Option Addr × Nat) × Dst // n ≤ d.r.length ∧ y.2.r = d.r.drop n ∧ y.2.ok ∧ (d.r.take n).length ≤ y.1.2 ∧ (y.1.1 = none → y.1.2 = 0)} => .slice y.1.1.1 (List.length (d.r.take n)) y.1.1.2) (fun y => [(db, .cells #[.slice (Dst.ad y.1.2) (List.length (Dst.r y.1.2)) (Dst.cap y.1.2)] 92 (0, 0))]) (fun y => [aY_ y.1.1.1 (List.flatMap u8C (d.r.take n)), aY_ (Dst.ad y.1.2) (List.flatMap u8C (Dst.r y.1.2))]) (¬ n ≤ d.r.length) := by
  refine bq_ Tryz.func159 rfl rfl Tryz.ntmps159 rfl fun v0 => ?_
  refine g_ (c_ (a_ (e_ rfl) rfl (d_ (b_ rfl (g_ (c_ (a_ (f_ rfl) rfl (a_ (f_ rfl) rfl (a_ (bk_ rfl) rfl ?_)))))))))
  refine a_ (h_ dz_ rfl rfl rfl ct_) rfl (a_ (n_ 0 dX_ rfl rfl rfl) rfl (a_ (aA_ aE_ rfl) rfl (E_ (cb_ rfl rfl) rfl fun r1 hr1 => ?_)))
  refine ao_ (dl_ r1) rfl x_ (fun _ _ _ => by exact trivial) rfl (fun hb => cA_ ((fun q => by rw [hb] at hr1; simp at hr1; omega))) fun ⟨_, hn1⟩ => ?_
  try dsimp only
  have hn9 : n ≤ List.length (Dst.r d) := by have z := hr1; rw [hn1] at z; simp at z; omega
  refine d_ (b_ rfl (g_ ?_))
  refine cn_ ([]) (by kernel_rfl) ?_
  refine P_ 8 [0, 1, 2, 3, 5, 7, 8, 9, 11] (by kernel_rfl) (fun _ a b => ⟨aC_ a, b⟩) (m_ rfl (f_ rfl) rfl (m_ rfl (f_ rfl) rfl (m_ rfl (bk_ rfl) rfl (m_ rfl (h_ dz_ rfl rfl rfl ct_) rfl (m_ rfl (f_ rfl) rfl (m_ rfl (f_ rfl) rfl (m_ rfl (bk_ rfl) rfl (m_ rfl (h_ dz_ rfl rfl rfl ct_) rfl (m_ rfl (f_ rfl) rfl ?_)))))))))
  refine O_ ?_
  refine cm_ 4 10 rfl rfl (by kernel_rfl) ?_ ?_
  · skip
    refine a_ (n_ 0 dX_ rfl rfl rfl) rfl (d_ (p_ rfl (D_ (fun _ a b => ⟨aC_ a, b⟩) (P_ 5 [6, 13] (by kernel_rfl) (fun _ a b => ⟨aC_ a, b⟩) (m_ rfl (ch_ (dE_ (i := 0) (j := n) (kl := .i64) (kh := .i64) aE_ cI_ rfl rfl rfl (by omega) (by have := hd.1; omega)) (show _ = Value.slice (sad (Dst.ad d) (Dst.cap d) 0 1) (List.length (List.take n (Dst.r d))) ((Dst.cap d) - 0) by rw [List.length_take, Nat.min_eq_left (by omega)]; rfl)) rfl (m_ rfl (e_ rfl) rfl (O_ (L_ 10 rfl (by kernel_rfl) (a_ (n_ 0 dX_ rfl rfl rfl) rfl ?_)))))))))
    refine d_ (p_ rfl (D_ (fun _ a b => ⟨aC_ a, b⟩) (P_ 1 [12, 14, 15] (by kernel_rfl) (fun _ a b => ⟨aC_ a, b⟩) (m_ rfl (ch_ (dE_ (i := n) (j := List.length (Dst.r d)) (kl := .i64) (kh := .i64) aE_ cI_ rfl rfl rfl (by omega) (by have := hd.1; omega)) (show _ = Value.slice (sad (Dst.ad d) (Dst.cap d) n 1) (List.length (List.drop n (Dst.r d))) ((Dst.cap d) - n) by rw [List.length_drop])) rfl (m_ rfl (bk_ rfl) rfl (m_ rfl (h_ dz_ rfl rfl rfl ct_) rfl (O_ (L_ 16 rfl (by kernel_rfl) (Q_ 0 ct_ rfl rfl rfl rfl rfl rfl ?_)))))))))
    refine d_ (p_ rfl (D_ (fun _ a b => ⟨aC_ a, b⟩) (T_ (by kernel_rfl) (b_ rfl (g_ (c_ (a_ (f_ rfl) rfl (a_ (e_ rfl) rfl (d_ ?_)))))))))
    refine b_ rfl (u_ ?_)
    have k1 : List.length (List.drop n (Dst.r d)) ≤ ((Dst.cap d) - n) := (by rw [List.length_drop]; have := hd.1; omega)
    have k2 : ((Dst.cap d) - n) ≤ maxLen := by have := hd.2.1; omega
    have k3 : (sad (Dst.ad d) (Dst.cap d) n 1) = none → ((Dst.cap d) - n) = 0 := (fun q => by have := hd.2.2 (fz_ q); omega)
    have k4 : List.length (List.take n (Dst.r d)) ≤ ((Dst.cap d) - 0) := (by rw [List.length_take]; have := hd.1; omega)
    have k5 : (sad (Dst.ad d) (Dst.cap d) 0 1) = none → ((Dst.cap d) - 0) = 0 := (fun q => by have := hd.2.2 (fz_ q); omega)
    exact ci_ (Y_ Tryz.results159 ⟨(((sad (Dst.ad d) (Dst.cap d) 0 1), ((Dst.cap d) - 0)), Dst.mk (sad (Dst.ad d) (Dst.cap d) n 1) ((Dst.cap d) - n) (List.drop n (Dst.r d))), hn9, rfl, ⟨k1, k2, k3⟩, k4, k5⟩ (gB_ rfl (by dsimp only)) C_ (fun v _ h => by exact ⟨(bV_.slice dZ_ h.1 hd.1 0 n), (bV_.rest dZ_ h.1 hd.1 n), trivial⟩))
  · skip
    refine a_ (n_ 0 dX_ rfl rfl rfl) rfl (d_ (p_ rfl (D_ (fun _ a b => ⟨aC_ a, b⟩) (P_ 6 [12] (by kernel_rfl) (fun _ a b => ⟨aC_ a, b⟩) (m_ rfl (ch_ (dE_ (i := n) (j := List.length (Dst.r d)) (kl := .i64) (kh := .i64) aE_ cI_ rfl rfl rfl (by omega) (by have := hd.1; omega)) (show _ = Value.slice (sad (Dst.ad d) (Dst.cap d) n 1) (List.length (List.drop n (Dst.r d))) ((Dst.cap d) - n) by rw [List.length_drop])) rfl (O_ (L_ 4 rfl (by kernel_rfl) (a_ (n_ 0 dX_ rfl rfl rfl) rfl (d_ ?_)))))))))
    refine p_ rfl (D_ (fun _ a b => ⟨aC_ a, b⟩) (P_ 1 [6, 13, 14, 15] (by kernel_rfl) (fun _ a b => ⟨aC_ a, b⟩) (m_ rfl (ch_ (dE_ (i := 0) (j := n) (kl := .i64) (kh := .i64) aE_ cI_ rfl rfl rfl (by omega) (by have := hd.1; omega)) (show _ = Value.slice (sad (Dst.ad d) (Dst.cap d) 0 1) (List.length (List.take n (Dst.r d))) ((Dst.cap d) - 0) by rw [List.length_take, Nat.min_eq_left (by omega)]; rfl)) rfl (m_ rfl (e_ rfl) rfl (m_ rfl (bk_ rfl) rfl (m_ rfl (h_ dz_ rfl rfl rfl ct_) rfl (O_ (L_ 16 rfl (by kernel_rfl) (Q_ 0 ct_ rfl rfl rfl rfl rfl rfl ?_)))))))))
    refine d_ (p_ rfl (D_ (fun _ a b => ⟨aC_ a, b⟩) (T_ (by kernel_rfl) (b_ rfl (g_ (c_ (a_ (f_ rfl) rfl (a_ (e_ rfl) rfl (d_ ?_)))))))))
    refine b_ rfl (u_ ?_)
    have k1 : List.length (List.drop n (Dst.r d)) ≤ ((Dst.cap d) - n) := (by rw [List.length_drop]; have := hd.1; omega)
    have k2 : ((Dst.cap d) - n) ≤ maxLen := by have := hd.2.1; omega
    have k3 : (sad (Dst.ad d) (Dst.cap d) n 1) = none → ((Dst.cap d) - n) = 0 := (fun q => by have := hd.2.2 (fz_ q); omega)
    have k4 : List.length (List.take n (Dst.r d)) ≤ ((Dst.cap d) - 0) := (by rw [List.length_take]; have := hd.1; omega)
    have k5 : (sad (Dst.ad d) (Dst.cap d) 0 1) = none → ((Dst.cap d) - 0) = 0 := (fun q => by have := hd.2.2 (fz_ q); omega)
    exact ci_ (Y_ Tryz.results159 ⟨(((sad (Dst.ad d) (Dst.cap d) 0 1), ((Dst.cap d) - 0)), Dst.mk (sad (Dst.ad d) (Dst.cap d) n 1) ((Dst.cap d) - n) (List.drop n (Dst.r d))), hn9, rfl, ⟨k1, k2, k3⟩, k4, k5⟩ (gB_ rfl (by dsimp only)) C_ (fun v _ h => by exact ⟨(bV_.slice dZ_ h.1 hd.1 0 n), (bV_.rest dZ_ h.1 hd.1 n), trivial⟩))
theorem ft_ (db : Nat) (d : Dst) (n : Nat) (hd : d.ok) (hn : n ≤ 8) : TriX Tryz.prog 87 #[zp_ db 0, .int .i64 (n : Int)] [(db, .cells #[.slice (Dst.ad d) (List.length (Dst.r d)) (Dst.cap d)] 92 (0, 0))] [aY_ (Dst.ad d) (List.flatMap u8C (Dst.r d))] (fun y : {y : Nat × Dst // cQ_ n d.r = some (y.1, y.2.r) ∧ y.2.ok} => .int .u64 (y.1.1 : Int)) (fun y => [(db, .cells #[.slice (Dst.ad y.1.2) (List.length (Dst.r y.1.2)) (Dst.cap y.1.2)] 92 (0, 0))]) (fun y => [aY_ (Dst.ad y.1.2) (List.flatMap u8C (Dst.r y.1.2))]) (cQ_ n d.r = none) := by
  refine bq_ Tryz.func87 rfl rfl Tryz.ntmps87 rfl fun v0 => ?_
  have hl9 : List.length (List.take n (Dst.r d)) ≤ 8 := by rw [List.length_take]; omega
  refine g_ (c_ (a_ (e_ rfl) rfl (d_ (b_ rfl (g_ (g_ (c_ (a_ (f_ rfl) rfl (a_ (f_ rfl) rfl ?_)))))))))
  refine ao_ (lg_ db d n hd (by omega)) rfl C_ (fun v _ h => by exact ⟨h.1, trivial⟩) rfl (fun hb => cA_ (gW_ hb)) fun ⟨⟨⟨ba, bc⟩, e⟩, hb1, hb2, hb3, hb4, hb5⟩ => ?_
  try dsimp only
  refine a_ (aA_ aE_ rfl) rfl (a_ (f_ rfl) rfl (d_ (b_ rfl (ae_ ?_))))
  refine bt_ (ι := {y : Nat // y ≤ List.length (List.take n (Dst.r d))}) (fun y => [(4, .int .u64 (beN (List.take y.1 (List.take n (Dst.r d))) : Int)), (9, .slice ba (List.length (List.take n (Dst.r d))) bc), (10, .int .i64 (List.length (List.take n (Dst.r d)) : Int)), (11, .int .i64 (y.1 : Int))]) (fun y => ((db, .cells #[.slice (Dst.ad e) (List.length (Dst.r e)) (Dst.cap e)] 92 (0, 0)) :: [])) (fun y => [aY_ ba (List.flatMap u8C (List.take n (Dst.r d))), aY_ (Dst.ad e) (List.flatMap u8C (Dst.r e)), aY_ (Dst.ad d) (List.flatMap u8C (Dst.r d))]) (fun y => List.length (List.take n (Dst.r d)) - y.1) ⟨(0 : Nat), by simp⟩ ⟨rfl, rfl, rfl, rfl, trivial⟩ C_ (fun _ _ h => h) ?_
  rintro ⟨i, hi_i⟩
  dsimp only at hi_i ⊢
  refine g_ (c_ (E_ (au_ rfl rfl) rfl fun r1 hr1 => ?_))
  refine d_ (b_ rfl (g_ ?_))
  cases r1
  · skip
    replace hr1 := of_decide_eq_false hr1
    refine A_ rfl (bj_ rfl (b_ rfl (g_ (c_ (a_ (f_ rfl) rfl (a_ (e_ rfl) rfl (d_ (b_ rfl (u_ ?_)))))))))
    have e9 : List.take i (List.take n (Dst.r d)) = (List.take n (Dst.r d)) := List.take_of_length_le (by omega)
    exact ci_ (Y_ Tryz.results87 ⟨(beN (List.take n (Dst.r d)), e), by rw [fS_ hb1, hb2], hb3⟩ (aH_ rfl (by rw [e9])) C_ (fun v _ h => by exact ⟨h.2.1, trivial⟩))
  · skip
    replace hr1 := of_decide_eq_true hr1
    have hlx1 : i < List.length (List.take n (Dst.r d)) := by omega
    obtain ⟨x1, hx1⟩ : ∃ e0, (List.take n (Dst.r d))[i]? = some e0 := ⟨_, List.getElem?_eq_getElem hlx1⟩
    have hmx1 : x1 ∈ (List.take n (Dst.r d)) := List.mem_of_getElem? hx1
    refine w_ rfl (J_ (b_ rfl (g_ (ae_ (g_ (c_ (a_ (an_ aE_ cI_ rfl rfl (fun v _ h => ba_ (n := 1) dZ_ (by decide) (by exact h.1) hx1) (by omega) (by first | omega | (simp; done))) rfl (a_ (bE_ (ad := ba) Tryz.isAgg5 rfl (fun v _ h => by exact h.1) (ar_ dZ_ hx1 0 _ rfl)) rfl (a_ (e_ rfl) rfl ?_)))))))))
    refine d_ (b_ rfl (c_ (a_ (f_ rfl) rfl (a_ (kh_ (m := beN (List.take i (List.take n (Dst.r d)))) rfl rfl (jB_ hlx1 (by rw [List.length_take]; omega))) rfl (a_ (f_ rfl) rfl (a_ (bZ_ bx_ aZ_ rfl (ki_ (by omega) (by have := UInt8.toNat_lt x1; omega))) rfl (a_ (lU_ (m := beN (List.take i (List.take n (Dst.r d)))) (c := UInt8.toNat x1) rfl rfl (jB_ hlx1 (by rw [List.length_take]; omega)) (by have := UInt8.toNat_lt x1; omega)) rfl (a_ (e_ rfl) rfl (d_ ?_)))))))))
    refine b_ rfl (c_ (a_ (ag_ rfl rfl rfl (aS_ (by omega) (by omega))) rfl (a_ (f_ rfl) rfl (d_ (p_ rfl ?_)))))
    exact aU_ ⟨i + 1, hlx1⟩ (by dsimp only; omega) ⟨(congrArg some (congrArg (Value.int .u64) (by dsimp only; rw [mA_ hx1]))), rfl, rfl, rfl, trivial⟩ C_ (fun _ _ h => h)
theorem ld_ (db : Nat) : jr_ Tryz.prog 89 92 db (fun q : Int => Value.int .i64 q) dk_ := by
  intro d hd
  refine bq_ Tryz.func89 rfl rfl Tryz.ntmps89 rfl fun v0 => ?_
  refine g_ (c_ (a_ (e_ rfl) rfl (d_ (b_ rfl (g_ (c_ (a_ (f_ rfl) rfl (ao_ (ft_ db d 1 hd (by decide)) rfl C_ (fun v _ h => by exact ⟨h.1, trivial⟩) rfl (fun hb => cA_ (hs_ hb)) fun ⟨⟨iv, e⟩, hi1, hi2⟩ => ?_))))))))
  try dsimp only
  refine a_ (bZ_ aZ_ aT_ rfl (ej_ (by have := eL_ hi1; omega))) rfl (a_ (e_ rfl) rfl (d_ (b_ rfl (u_ ?_))))
  exact ci_ (Y_ Tryz.results89 ⟨((iv : Int), e), fL_ hi1, hi2⟩ rfl C_ (fun v _ h => by exact ⟨h.1, trivial⟩))
theorem pR_ (db : Nat) : jr_ Tryz.prog 92 92 db (fun q : Int => Value.int .i64 q) eX_ := by
  intro d hd
  refine bq_ Tryz.func92 rfl rfl Tryz.ntmps92 rfl fun v0 => ?_
  refine g_ (c_ (a_ (e_ rfl) rfl (d_ (b_ rfl (g_ (c_ (a_ (f_ rfl) rfl (ao_ (ft_ db d 8 hd (by decide)) rfl C_ (fun v _ h => by exact ⟨h.1, trivial⟩) rfl (fun hb => cA_ (lC_ hb)) fun ⟨⟨iv, e⟩, hi1, hi2⟩ => ?_))))))))
  try dsimp only
  refine a_ (bZ_ aZ_ aT_ rfl (ju_ (by have := eL_ hi1; omega))) rfl (a_ (e_ rfl) rfl (d_ (b_ rfl (u_ ?_))))
  exact ci_ (Y_ Tryz.results92 ⟨((cq_ iv), e), lB_ hi1, hi2⟩ rfl C_ (fun v _ h => by exact ⟨h.1, trivial⟩))
theorem gF_ (db : Nat) : jr_ Tryz.prog 42 92 db (fun q : Int => Value.int .i64 q) eE_ := by
  intro d hd
  refine bq_ Tryz.func42 rfl rfl Tryz.ntmps42 rfl fun v0 => ?_
  refine g_ (c_ (a_ (e_ rfl) rfl (d_ (b_ rfl (g_ (c_ (a_ (f_ rfl) rfl (ao_ (ft_ db d 4 hd (by decide)) rfl C_ (fun v _ h => by exact ⟨h.1, trivial⟩) rfl (fun hb => cA_ (mq_ hb)) fun ⟨⟨iv, e⟩, hi1, hi2⟩ => ?_))))))))
  try dsimp only
  refine a_ (e_ rfl) rfl (d_ (b_ rfl (g_ (c_ (a_ (f_ rfl) rfl (E_ (cb_ rfl rfl) rfl fun r1 hr1 => ?_))))))
  refine ao_ (dl_ r1) rfl x_ (fun _ _ _ => by exact trivial) rfl (fun hb => cA_ ((mr_ hi1 (fun q => by rw [hb] at hr1; simp at hr1; omega)))) fun ⟨_, hn1⟩ => ?_
  try dsimp only
  have hn9 : iv ≤ 2147483647 := by have z := hr1; rw [hn1] at z; simp at z; omega
  refine d_ (b_ rfl (g_ (c_ (a_ (f_ rfl) rfl (a_ (bZ_ aZ_ aT_ rfl (ej_ (by omega))) rfl (a_ (e_ rfl) rfl (d_ (b_ rfl (u_ ?_)))))))))
  exact ci_ (Y_ Tryz.results42 ⟨((iv : Int), e), je_ hi1 hn9, hi2⟩ rfl C_ (fun v _ h => by exact ⟨h.1, trivial⟩))
theorem pQ_ (db : Nat) : jr_ Tryz.prog 91 92 db str dF_ := by
  intro d hd
  refine bq_ Tryz.func91 rfl rfl Tryz.ntmps91 rfl fun v0 => ?_
  refine g_ (c_ (a_ (e_ rfl) rfl (d_ (b_ rfl (g_ (c_ (a_ (f_ rfl) rfl (a_ (f_ rfl) rfl (ao_ (ft_ db d 2 hd (by decide)) rfl C_ (fun v _ h => by exact ⟨h.1, trivial⟩) rfl (fun hb => cA_ (ls_ hb)) fun ⟨⟨iv, e⟩, hi1, hi2⟩ => ?_)))))))))
  try dsimp only
  refine a_ (bZ_ aZ_ aT_ rfl (ej_ (by have := eL_ hi1; omega))) rfl (ao_ (lg_ db e iv hi2 (by have := eL_ hi1; omega)) rfl C_ (fun v _ h => by exact ⟨h.1, trivial⟩) rfl (fun hb => cA_ (nz_ hi1 hb)) fun ⟨⟨⟨ba, bc⟩, e2⟩, hb1, hb2, hb3, hb4, hb5⟩ => ?_)
  try dsimp only
  refine a_ (ei_ bS_ bx_ bR_ rfl (fun v _ h => by exact h.1)) rfl (a_ (e_ rfl) rfl (d_ (b_ rfl (u_ ?_))))
  exact ci_ (Y_ Tryz.results91 ⟨(_, e2), by rw [lr_ hi1 hb1, hb2], hb3⟩ rfl C_ (fun v _ h => by exact ⟨h.2.1, trivial⟩))
end Go.Proofs.YtaffcjgphlhppaaGreatDoor
namespace Go.Proofs.YtaffcjgphlhppaaGreatDoor
open Go Go.Sx Go.Proofs
attribute [local irreducible] Code.wp wpList wpAnyH
open Go.Vs
theorem hx_ (g : FuncId) (db tb : Nat) (TT : TypeId) (f : Str → Option (Int × Str)) (hrd : jr_ Tryz.prog g 92 db (fun q : Int => Value.int .i64 q) f) (d : Dst) (hd : d.ok) (os : List Nat) (cs : List Value) (hos : ∀ o ∈ os, o < List.length cs) (pad : Option Addr) (pcap : Nat) (hol : os.length ≤ 100) : TriX Tryz.prog 88 #[.func (.func g) #[zp_ db 0] #[], .slice pad (List.length os) pcap] [(tb, .cells (List.toArray cs) TT (0, 0)), (db, .cells #[.slice (Dst.ad d) (List.length (Dst.r d)) (Dst.cap d)] 92 (0, 0))] [aY_ pad (List.flatMap (iy_ tb) os), aY_ (Dst.ad d) (List.flatMap u8C (Dst.r d))] (fun y : {y : List Value × Dst // db_ f (fun q : Int => Value.int .i64 q) os cs d.r = some (y.1, y.2.r) ∧ y.2.ok} => .tuple #[]) (fun y => [(tb, .cells (List.toArray y.1.1) TT (0, 0)), (db, .cells #[.slice (Dst.ad y.1.2) (List.length (Dst.r y.1.2)) (Dst.cap y.1.2)] 92 (0, 0))]) (fun y => [aY_ (Dst.ad y.1.2) (List.flatMap u8C (Dst.r y.1.2))]) (db_ f (fun q : Int => Value.int .i64 q) os cs d.r = none) := by
  refine bq_ Tryz.func88 rfl rfl Tryz.ntmps88 rfl fun v0 => ?_
  refine g_ (c_ (a_ (f_ rfl) rfl (a_ (aA_ ef_ rfl) rfl (a_ (f_ rfl) rfl (d_ (b_ rfl (ae_ ?_)))))))
  refine bt_ (ι := {y : Nat × List Value × Dst // y.1 ≤ List.length os ∧ db_ f (fun q : Int => Value.int .i64 q) os cs d.r = db_ f (fun q : Int => Value.int .i64 q) (List.drop y.1 os) y.2.1 y.2.2.r ∧ Dst.ok y.2.2 ∧ List.length y.2.1 = List.length cs}) (fun y => [(0, .func (.func g) #[zp_ db 0] #[]), (6, .slice pad (List.length os) pcap), (7, .int .i64 (List.length os : Int)), (8, .int .i64 (y.1.1 : Int))]) (fun y => ((tb, .cells (List.toArray y.1.2.1) TT (0, 0)) :: ((db, .cells #[.slice (Dst.ad y.1.2.2) (List.length (Dst.r y.1.2.2)) (Dst.cap y.1.2.2)] 92 (0, 0)) :: []))) (fun y => [aY_ pad (List.flatMap (iy_ tb) os), aY_ (Dst.ad y.1.2.2) (List.flatMap u8C (Dst.r y.1.2.2))]) (fun y => List.length os - y.1.1) ⟨((0 : Nat), cs, d), by simp, rfl, hd, rfl⟩ ⟨rfl, rfl, rfl, rfl, trivial⟩ (N_ C_ C_) (fun _ _ h => h) ?_
  rintro ⟨⟨i, c, e⟩, hi, hF, he, hcl⟩
  dsimp only at hi hF he hcl ⊢
  refine g_ (c_ (E_ (au_ rfl rfl) rfl fun r1 hr1 => ?_))
  refine d_ (b_ rfl (g_ ?_))
  cases r1
  · skip
    replace hr1 := of_decide_eq_false hr1
    refine A_ rfl (bj_ rfl (gC_ rfl ?_))
    exact endX (pP_ Tryz.results88 ⟨(c, e), la_ hF (by omega), he⟩ rfl (N_ C_ C_) (fun v _ h => by exact ⟨h.2.1, trivial⟩))
  · skip
    replace hr1 := of_decide_eq_true hr1
    have hlx1 : i < List.length os := by omega
    obtain ⟨x1, hx1⟩ : ∃ e0, os[i]? = some e0 := ⟨_, List.getElem?_eq_getElem hlx1⟩
    have hmx1 : x1 ∈ os := List.mem_of_getElem? hx1
    refine w_ rfl (J_ (b_ rfl (g_ (ae_ (g_ (c_ (a_ (an_ ef_ nH_ rfl rfl (fun v _ h => ba_ (n := 1) (gs_ tb) (by decide) (by exact h.1) hx1) (by omega) (by first | omega | (simp; done))) rfl (a_ (bE_ (ad := pad) Tryz.isAgg159 rfl (fun v _ h => by exact h.1) (ar_ (gs_ tb) hx1 0 _ rfl)) rfl (a_ (e_ rfl) rfl ?_)))))))))
    refine d_ (b_ rfl (c_ (a_ (f_ rfl) rfl (a_ (f_ rfl) rfl (fn_ (first := [zp_ db 0]) (cap := []) (vs := []) (hrd e he) rfl rfl (F_ C_) (fun v _ h => by exact ⟨h.2.1, trivial⟩) rfl (fun hb => cA_ (jj_ hF hx1 hb)) fun ⟨⟨rv, e1⟩, hf1, he1⟩ => ?_)))))
    dsimp only
    refine a_ (bk_ rfl) rfl (hd_ q_ rfl rfl (F_ C_) (by rw [hcl]; exact hos _ hmx1) rfl rfl (d_ (b_ rfl (c_ (a_ (ag_ rfl rfl rfl (aS_ (by omega) (by omega))) rfl (a_ (f_ rfl) rfl (d_ (p_ rfl ?_))))))))
    exact aU_ ⟨(i + 1, (List.set c x1 ((fun q : Int => Value.int .i64 q) rv)), e1), hlx1, jk_ hF hx1 hf1, he1, (by rw [List.length_set]; exact hcl)⟩ (by dsimp only; omega) ⟨rfl, rfl, rfl, rfl, trivial⟩ (N_ C_ C_) (fun v _ h => by exact ⟨h.2.1, h.1, trivial⟩)
theorem pL_ (g : FuncId) (db tb : Nat) (TT : TypeId) (f : Str → Option (Str × Str)) (hrd : jr_ Tryz.prog g 92 db str f) (d : Dst) (hd : d.ok) (os : List Nat) (cs : List Value) (hos : ∀ o ∈ os, o < List.length cs) (pad : Option Addr) (pcap : Nat) (hol : os.length ≤ 100) : TriX Tryz.prog 90 #[.func (.func g) #[zp_ db 0] #[], .slice pad (List.length os) pcap] [(tb, .cells (List.toArray cs) TT (0, 0)), (db, .cells #[.slice (Dst.ad d) (List.length (Dst.r d)) (Dst.cap d)] 92 (0, 0))] [aY_ pad (List.flatMap (iy_ tb) os), aY_ (Dst.ad d) (List.flatMap u8C (Dst.r d))] (fun y : {y : List Value × Dst // db_ f str os cs d.r = some (y.1, y.2.r) ∧ y.2.ok} => .tuple #[]) (fun y => [(tb, .cells (List.toArray y.1.1) TT (0, 0)), (db, .cells #[.slice (Dst.ad y.1.2) (List.length (Dst.r y.1.2)) (Dst.cap y.1.2)] 92 (0, 0))]) (fun y => [aY_ (Dst.ad y.1.2) (List.flatMap u8C (Dst.r y.1.2))]) (db_ f str os cs d.r = none) := by
  refine bq_ Tryz.func90 rfl rfl Tryz.ntmps90 rfl fun v0 => ?_
  refine g_ (c_ (a_ (f_ rfl) rfl (a_ (aA_ Tryz.runUnderlying189 rfl) rfl (a_ (f_ rfl) rfl (d_ (b_ rfl (ae_ ?_)))))))
  refine bt_ (ι := {y : Nat × List Value × Dst // y.1 ≤ List.length os ∧ db_ f str os cs d.r = db_ f str (List.drop y.1 os) y.2.1 y.2.2.r ∧ Dst.ok y.2.2 ∧ List.length y.2.1 = List.length cs}) (fun y => [(0, .func (.func g) #[zp_ db 0] #[]), (6, .slice pad (List.length os) pcap), (7, .int .i64 (List.length os : Int)), (8, .int .i64 (y.1.1 : Int))]) (fun y => ((tb, .cells (List.toArray y.1.2.1) TT (0, 0)) :: ((db, .cells #[.slice (Dst.ad y.1.2.2) (List.length (Dst.r y.1.2.2)) (Dst.cap y.1.2.2)] 92 (0, 0)) :: []))) (fun y => [aY_ pad (List.flatMap (iy_ tb) os), aY_ (Dst.ad y.1.2.2) (List.flatMap u8C (Dst.r y.1.2.2))]) (fun y => List.length os - y.1.1) ⟨((0 : Nat), cs, d), by simp, rfl, hd, rfl⟩ ⟨rfl, rfl, rfl, rfl, trivial⟩ (N_ C_ C_) (fun _ _ h => h) ?_
  rintro ⟨⟨i, c, e⟩, hi, hF, he, hcl⟩
  dsimp only at hi hF he hcl ⊢
  refine g_ (c_ (E_ (au_ rfl rfl) rfl fun r1 hr1 => ?_))
  refine d_ (b_ rfl (g_ ?_))
  cases r1
  · skip
    replace hr1 := of_decide_eq_false hr1
    refine A_ rfl (bj_ rfl (gC_ rfl ?_))
    exact endX (pP_ Tryz.results90 ⟨(c, e), la_ hF (by omega), he⟩ rfl (N_ C_ C_) (fun v _ h => by exact ⟨h.2.1, trivial⟩))
  · skip
    replace hr1 := of_decide_eq_true hr1
    have hlx1 : i < List.length os := by omega
    obtain ⟨x1, hx1⟩ : ∃ e0, os[i]? = some e0 := ⟨_, List.getElem?_eq_getElem hlx1⟩
    have hmx1 : x1 ∈ os := List.mem_of_getElem? hx1
    refine w_ rfl (J_ (b_ rfl (g_ (ae_ (g_ (c_ (a_ (an_ Tryz.runUnderlying189 Tryz.sizeOf162 rfl rfl (fun v _ h => ba_ (n := 1) (gs_ tb) (by decide) (by exact h.1) hx1) (by omega) (by first | omega | (simp; done))) rfl (a_ (bE_ (ad := pad) Tryz.isAgg162 rfl (fun v _ h => by exact h.1) (ar_ (gs_ tb) hx1 0 _ rfl)) rfl (a_ (e_ rfl) rfl ?_)))))))))
    refine d_ (b_ rfl (c_ (a_ (f_ rfl) rfl (a_ (f_ rfl) rfl (fn_ (first := [zp_ db 0]) (cap := []) (vs := []) (hrd e he) rfl rfl (F_ C_) (fun v _ h => by exact ⟨h.2.1, trivial⟩) rfl (fun hb => cA_ (jj_ hF hx1 hb)) fun ⟨⟨rv, e1⟩, hf1, he1⟩ => ?_)))))
    dsimp only
    refine a_ (bk_ rfl) rfl (hd_ y_ rfl rfl (F_ C_) (by rw [hcl]; exact hos _ hmx1) rfl rfl (d_ (b_ rfl (c_ (a_ (ag_ rfl rfl rfl (aS_ (by omega) (by omega))) rfl (a_ (f_ rfl) rfl (d_ (p_ rfl ?_))))))))
    exact aU_ ⟨(i + 1, (List.set c x1 (str rv)), e1), hlx1, jk_ hF hx1 hf1, he1, (by rw [List.length_set]; exact hcl)⟩ (by dsimp only; omega) ⟨rfl, rfl, rfl, rfl, trivial⟩ (N_ C_ C_) (fun v _ h => by exact ⟨h.2.1, h.1, trivial⟩)
end Go.Proofs.YtaffcjgphlhppaaGreatDoor
namespace Go.Proofs.YtaffcjgphlhppaaGreatDoor
open Go Go.Sx Go.Proofs
attribute [local irreducible] Code.wp wpList wpAnyH
open Go.Vs
theorem hy_ : Elt Tryz.prog 34 3 1 8 := lc_ Tryz.underlying34 (z := .int .i64 0) (by kernel_rfl) rfl (by decide)
theorem fX_ (db : Nat) (d : Dst) (hd : d.ok) : TriX Tryz.prog 44 #[zp_ db 0] [(db, .cells #[.slice (Dst.ad d) (List.length (Dst.r d)) (Dst.cap d)] 92 (0, 0))] [aY_ (Dst.ad d) (List.flatMap u8C (Dst.r d))] (fun y : {y : Stp × Dst // eU_ d.r = some (y.1.ds, y.2.r) ∧ y.2.ok} => Stp.val y.1.1) (fun y => [(db, .cells #[.slice (Dst.ad y.1.2) (List.length (Dst.r y.1.2)) (Dst.cap y.1.2)] 92 (0, 0))]) (fun y => [aY_ y.1.1.ad (List.flatMap dg_ y.1.1.frm), aY_ (Dst.ad y.1.2) (List.flatMap u8C (Dst.r y.1.2))]) (eU_ d.r = none) := by
 refine bq_ Tryz.func44 rfl rfl Tryz.ntmps44 rfl fun v0 => ?_
 refine g_ (c_ (Z_ bb_ rfl fun b1 => ?_))
 refine d_ (b_ rfl (g_ (c_ (a_ (h_ G_ rfl rfl rfl l_) rfl (a_ (e_ rfl) rfl (d_ (b_ rfl (g_ (c_ ?_)))))))))
 refine Z_ cO_ rfl fun b2 => ?_
 refine Q_ 0 q_ rfl rfl rfl rfl rfl rfl (d_ (b_ rfl (g_ (c_ (a_ (f_ rfl) rfl (a_ (dx_ rfl rfl) rfl (a_ (h_ G_ rfl rfl rfl q_) rfl (a_ (f_ rfl) rfl (a_ (bk_ rfl) rfl ?_)))))))))
 refine a_ (h_ o_ rfl rfl rfl q_) rfl (be_ ef_ nH_ Tryz.zeroValue159 rfl rfl rfl rfl rfl rfl fun b3 => ?_)
 refine bU_ (List.flatMap (iy_ b1) [0, 1]) C_ rfl ?_
 refine ao_ (hx_ 89 db b1 36 dk_ (ld_ db) d hd [0, 1] [.int .i64 0, .int .i64 0, str [], str [], str [], .int .i64 0, .int .i64 0, .int .i64 0, .slice none 0 0] (by simp) (some ⟨b3, 0, none⟩) 2 (by simp)) rfl (N_ (F_ C_) (F_ C_)) (fun v _ h => by exact ⟨h.1, h.2.1, trivial⟩) rfl (fun hb => cA_ ((by rw [cY_]; exact lO_ hb _))) fun ⟨⟨c1, d1⟩, hf1, hd1⟩ => ?_
 try dsimp only
 obtain ⟨v1, r1, hq1, hf1⟩ := fW_ hf1
 obtain ⟨v2, hq2, rfl⟩ := fF_ hf1
 refine as_ (show List.Perm _ ((b1, .cells #[.int .i64 v1, .int .i64 v2, str [], str [], str [], .int .i64 0, .int .i64 0, .int .i64 0, .slice none 0 0] 36 (0, 0)) :: ((db, .cells #[.slice (Dst.ad d1) (List.length (Dst.r d1)) (Dst.cap d1)] 92 (0, 0)) :: ((b2, .cells #[.int .i64 0] 3 (0, 0)) :: []))) from .refl _) (d_ (b_ rfl (g_ ?_)))
 refine cn_ ((b2, .cells #[.int .i64 0] 3 (0, 0)) :: []) (by kernel_rfl) ?_
 refine P_ 2 [0, 1, 2, 3, 4, 5, 6, 7, 8, 9, 10] (by kernel_rfl) (fun _ a b => ⟨a.tail.tail, b⟩) (m_ rfl (f_ rfl) rfl (m_ rfl (dx_ rfl rfl) rfl (m_ rfl (f_ rfl) rfl (m_ rfl (bk_ rfl) rfl (m_ rfl (h_ o_ rfl rfl rfl y_) rfl (m_ rfl (f_ rfl) rfl (m_ rfl (bk_ rfl) rfl (m_ rfl (h_ o_ rfl rfl rfl y_) rfl (m_ rfl (f_ rfl) rfl ?_)))))))))
 refine m_ rfl (bk_ rfl) rfl (m_ rfl (h_ o_ rfl rfl rfl y_) rfl (O_ (L_ 11 rfl (by kernel_rfl) (be_ Tryz.runUnderlying189 Tryz.sizeOf162 Tryz.zeroValue162 rfl rfl rfl rfl rfl rfl fun b4 => ?_))))
 refine bU_ (List.flatMap (iy_ b1) [2, 3, 4]) C_ rfl ?_
 refine d_ (p_ rfl (D_ (fun _ a b => ⟨a.tail.tail, b.2⟩) (L_ 12 rfl (by kernel_rfl) (ao_ (pL_ 91 db b1 36 dF_ (pQ_ db) d1 hd1 [2, 3, 4] [.int .i64 v1, .int .i64 v2, str [], str [], str [], .int .i64 0, .int .i64 0, .int .i64 0, .slice none 0 0] (by simp) (some ⟨b4, 0, none⟩) 3 (by simp)) rfl (N_ C_ C_) (fun v _ h => by exact ⟨h.1, h.2.1, trivial⟩) rfl (fun hb => cA_ ((by rw [cY_]; simp only [hq1, hq2, Option.bind_some]; exact chain3 hb _))) fun ⟨⟨c2, d2⟩, hf2, hd2⟩ => ?_))))
 try dsimp only
 obtain ⟨v3, r3, hq3, hf2⟩ := fW_ hf2
 obtain ⟨v4, r4, hq4, hf2⟩ := fW_ hf2
 obtain ⟨v5, hq5, rfl⟩ := fF_ hf2
 refine as_ (show List.Perm _ ((b1, .cells #[.int .i64 v1, .int .i64 v2, str v3, str v4, str v5, .int .i64 0, .int .i64 0, .int .i64 0, .slice none 0 0] 36 (0, 0)) :: ((db, .cells #[.slice (Dst.ad d2) (List.length (Dst.r d2)) (Dst.cap d2)] 92 (0, 0)) :: ((b2, .cells #[.int .i64 0] 3 (0, 0)) :: []))) from .refl _) (d_ (p_ rfl (D_ (fun _ a b => ⟨a.tail.tail, b.2.2⟩) (T_ (by kernel_rfl) (b_ rfl (g_ ?_))))))
 refine cn_ ((b2, .cells #[.int .i64 0] 3 (0, 0)) :: []) (by kernel_rfl) ?_
 refine P_ 2 [0, 1, 2, 3, 4, 5, 6, 7] (by kernel_rfl) (fun _ a b => ⟨a.tail.tail, b⟩) (m_ rfl (f_ rfl) rfl (m_ rfl (dx_ rfl rfl) rfl (m_ rfl (f_ rfl) rfl (m_ rfl (bk_ rfl) rfl (m_ rfl (h_ o_ rfl rfl rfl q_) rfl (m_ rfl (f_ rfl) rfl (m_ rfl (bk_ rfl) rfl (m_ rfl (h_ o_ rfl rfl rfl q_) rfl (O_ ?_)))))))))
 refine L_ 8 rfl (by kernel_rfl) (be_ ef_ nH_ Tryz.zeroValue159 rfl rfl rfl rfl rfl rfl fun b5 => ?_)
 refine bU_ (List.flatMap (iy_ b1) [5, 6]) C_ rfl ?_
 refine d_ (p_ rfl (D_ (fun _ a b => ⟨a.tail.tail, b.2⟩) (L_ 9 rfl (by kernel_rfl) (ao_ (hx_ 92 db b1 36 eX_ (pR_ db) d2 hd2 [5, 6] [.int .i64 v1, .int .i64 v2, str v3, str v4, str v5, .int .i64 0, .int .i64 0, .int .i64 0, .slice none 0 0] (by simp) (some ⟨b5, 0, none⟩) 2 (by simp)) rfl (N_ C_ C_) (fun v _ h => by exact ⟨h.1, h.2.1, trivial⟩) rfl (fun hb => cA_ ((by rw [cY_]; simp only [hq1, hq2, hq3, hq4, hq5, Option.bind_some]; exact lO_ hb _))) fun ⟨⟨c3, d3⟩, hf3, hd3⟩ => ?_))))
 try dsimp only
 obtain ⟨v6, r6, hq6, hf3⟩ := fW_ hf3
 obtain ⟨v7, hq7, rfl⟩ := fF_ hf3
 refine as_ (show List.Perm _ ((b1, .cells #[.int .i64 v1, .int .i64 v2, str v3, str v4, str v5, .int .i64 v6, .int .i64 v7, .int .i64 0, .slice none 0 0] 36 (0, 0)) :: ((db, .cells #[.slice (Dst.ad d3) (List.length (Dst.r d3)) (Dst.cap d3)] 92 (0, 0)) :: ((b2, .cells #[.int .i64 0] 3 (0, 0)) :: []))) from .refl _) (d_ (p_ rfl (D_ (fun _ a b => ⟨a.tail.tail, b.2.2⟩) (T_ (by kernel_rfl) (b_ rfl (g_ (c_ (a_ (f_ rfl) rfl (a_ (dx_ rfl rfl) rfl ?_)))))))))
 refine a_ (h_ G_ rfl rfl rfl q_) rfl (be_ ef_ nH_ Tryz.zeroValue159 rfl rfl rfl rfl rfl rfl fun b6 => ?_)
 refine bU_ (List.flatMap (iy_ b1) [7]) C_ rfl ?_
 refine ao_ (hx_ 42 db b1 36 eE_ (gF_ db) d3 hd3 [7] [.int .i64 v1, .int .i64 v2, str v3, str v4, str v5, .int .i64 v6, .int .i64 v7, .int .i64 0, .slice none 0 0] (by simp) (some ⟨b6, 0, none⟩) 1 (by simp)) rfl (N_ C_ C_) (fun v _ h => by exact ⟨h.1, h.2.1, trivial⟩) rfl (fun hb => cA_ ((by rw [cY_]; simp only [hq1, hq2, hq3, hq4, hq5, hq6, hq7, Option.bind_some]; exact lP_ hb _))) fun ⟨⟨c4, d4⟩, hf4, hd4⟩ => ?_
 try dsimp only
 obtain ⟨v8, hq8, rfl⟩ := fF_ hf4
 refine as_ (show List.Perm _ ((b1, .cells #[.int .i64 v1, .int .i64 v2, str v3, str v4, str v5, .int .i64 v6, .int .i64 v7, .int .i64 v8, .slice none 0 0] 36 (0, 0)) :: ((db, .cells #[.slice (Dst.ad d4) (List.length (Dst.r d4)) (Dst.cap d4)] 92 (0, 0)) :: ((b2, .cells #[.int .i64 0] 3 (0, 0)) :: []))) from .refl _) (d_ (b_ rfl (g_ (c_ (a_ (f_ rfl) rfl (a_ (dx_ rfl rfl) rfl (be_ ef_ nH_ Tryz.zeroValue159 rfl rfl rfl rfl rfl rfl fun b7 => ?_)))))))
 refine bU_ (List.flatMap (iy_ b2) [0]) C_ rfl ?_
 refine ao_ (hx_ 89 db b2 3 dk_ (ld_ db) d4 hd4 [0] [.int .i64 0] (by simp) (some ⟨b7, 0, none⟩) 1 (by simp)) rfl (N_ (F_ (F_ C_)) (F_ C_)) (fun v _ h => by exact ⟨h.1, h.2.1, trivial⟩) rfl (fun hb => cA_ ((by rw [cY_]; simp only [hq1, hq2, hq3, hq4, hq5, hq6, hq7, hq8, Option.bind_some]; exact lP_ hb _))) fun ⟨⟨c5, d5⟩, hf5, hd5⟩ => ?_
 try dsimp only
 obtain ⟨v9, hq9, rfl⟩ := fF_ hf5
 refine as_ (show List.Perm _ ((b2, .cells #[.int .i64 v9] 3 (0, 0)) :: ((db, .cells #[.slice (Dst.ad d5) (List.length (Dst.r d5)) (Dst.cap d5)] 92 (0, 0)) :: ((b1, .cells #[.int .i64 v1, .int .i64 v2, str v3, str v4, str v5, .int .i64 v6, .int .i64 v7, .int .i64 v8, .slice none 0 0] 36 (0, 0)) :: []))) from .refl _) (d_ (b_ rfl (g_ (c_ (a_ (h_ G_ rfl rfl rfl q_) rfl (a_ (n_ 2 B_ rfl rfl rfl) rfl (a_ (ag_ rfl rfl rfl (aS_ (by first | omega | (have := dY_ hq8; omega)) (by first | omega | (have := dY_ hq8; omega)))) rfl (a_ (h_ G_ rfl rfl rfl q_) rfl (Q_ 2 q_ rfl rfl rfl rfl rfl rfl ?_)))))))))
 refine d_ (b_ rfl (g_ (g_ (c_ (a_ (n_ 0 B_ rfl rfl rfl) rfl (a_ (f_ rfl) rfl (d_ (b_ rfl (ae_ ?_)))))))))
 have hbd := gp_ hq9
 refine bt_ (ι := {y : Nat × List Int × Dst × Value × Hp // (y.1 : Int) ≤ v9 ∧ dB_ (Int.toNat v9) d5.r = (dB_ (Int.toNat v9 - y.1) y.2.2.1.r).map (fun z => (y.2.1 ++ z.1, z.2)) ∧ Dst.ok y.2.2.1 ∧ List.length y.2.1 = y.1 ∧ bi_ 3 1 y.2.2.2.1 (List.length y.2.1) (List.flatMap dg_ y.2.1) y.2.2.2.2}) (fun y => [(0, zp_ db 0), (2, zp_ b1 0), (50, .int .i64 v9), (51, .int .i64 (y.1.1 : Int))]) (fun y => ((b1, .cells #[.int .i64 v1, .int .i64 v2, str v3, str v4, str v5, .int .i64 v6, .int .i64 v7, .int .i64 (v8 - 1), y.1.2.2.2.1] 36 (0, 0)) :: ((db, .cells #[.slice (Dst.ad y.1.2.2.1) (List.length (Dst.r y.1.2.2.1)) (Dst.cap y.1.2.2.1)] 92 (0, 0)) :: y.1.2.2.2.2))) (fun y => [aY_ (Dst.ad y.1.2.2.1) (List.flatMap u8C (Dst.r y.1.2.2.1))]) (fun y => Int.toNat v9 - y.1.1) ⟨((0 : Nat), ([] : List Int), d5, (.slice none 0 0), []), (by dsimp only; omega), (by simp), hd5, rfl, (bi_.nil _ _)⟩ ⟨rfl, rfl, rfl, rfl, trivial⟩ (N_ (F_ (F_ C_)) (F_ C_)) (fun v _ h => by exact ⟨h.1, trivial⟩) ?_
 rintro ⟨⟨i, l, e, sv_F, H_F⟩, hi, hI, he, hll, hr_F⟩
 dsimp only at hi hI he hll hr_F ⊢
 refine g_ (c_ (E_ (au_ rfl rfl) rfl fun r1 hr1 => ?_))
 refine d_ (b_ rfl (g_ ?_))
 cases r1
 ·
  replace hr1 := of_decide_eq_false hr1
  refine A_ rfl (bj_ rfl (b_ rfl (g_ ?_)))
  have hI9 := kX_ hI (by omega)
  refine cf_ hr_F (F_ aK_) fun fad fcap hfad hcfad hmfad hzfad => ?_
  subst hfad
  refine c_ (a_ (M_ 0 bY_ ak_ rfl rfl rfl) rfl (Q_ 0 ak_ rfl rfl rfl rfl rfl rfl (d_ (b_ rfl (u_ ?_)))))
  have hfin : eU_ d.r = some (Stp.ds (Stp.mk v1 (Fc.mk v2 v3 v4 v5 v6 v7) (v8 - 1) fad fcap l), e.r) := by rw [cY_]; simp only [hq1, hq2, hq3, hq4, hq5, hq6, hq7, hq8, hq9, Option.bind_some]; rw [hI9]; rfl
  exact ci_ (et_ ⟨((Stp.mk v1 (Fc.mk v2 v3 v4 v5 v6 v7) (v8 - 1) fad fcap l), e), hfin, he⟩ (fun aa v h1 h2 => cG_ (us := Stp.cells (Stp.mk v1 (Fc.mk v2 v3 v4 v5 v6 v7) (v8 - 1) fad fcap l)) 0 Tryz.results44 bY_ ak_ rfl rfl rfl aa v h1 h2) (F_ C_) (fun v _ h => by exact ⟨h.1, h.2.1, trivial⟩))
 ·
  replace hr1 := of_decide_eq_true hr1
  refine w_ rfl (J_ (b_ rfl (g_ (ae_ ?_))))
  refine cn_ ([]) (by kernel_rfl) ?_
  refine P_ 6 [0, 2] (by kernel_rfl) (fun _ a b => ⟨aC_ a, b⟩) (m_ rfl (h_ G_ rfl rfl rfl bc_) rfl (m_ rfl (f_ rfl) rfl (O_ ?_)))
  refine cm_ 1 3 rfl rfl (by kernel_rfl) ?_ ?_
  ·
   refine a_ (n_ 0 bz_ rfl rfl rfl) rfl (d_ (p_ rfl (D_ (fun _ a b => ⟨aC_ a, b⟩) (L_ 3 rfl (by kernel_rfl) (ao_ (gF_ db e he) rfl (F_ C_) (fun v _ h => by exact ⟨h.1, trivial⟩) rfl (fun hb => cA_ ((by rw [cY_]; simp only [hq1, hq2, hq3, hq4, hq5, hq6, hq7, hq8, hq9, Option.bind_some]; rw [fU_ hI (by omega) hb]; rfl))) fun ⟨⟨rv, e1⟩, hi1, he1⟩ => ?_)))))
   try dsimp only
   refine d_ (p_ rfl (D_ (fun _ a b => ⟨aC_ a, b.2⟩) (L_ 4 rfl (by kernel_rfl) (be_ aj_ q_ cO_ rfl rfl rfl rfl rfl rfl fun b8 => ?_))))
   refine d_ (p_ rfl (D_ (fun _ a b => ⟨aC_ a, b.2⟩) (L_ 5 rfl (by kernel_rfl) (bC_ (news := List.flatMap dg_ [rv]) hy_ hr_F rfl rfl (F_ (F_ aK_)) rfl (ce_ 0 rfl) (fun u hu => bH_ gz_ hu) (by simp only [maxLen]; omega) (by omega) rfl fun sv1 Hr1 hr1 => ?_))))
   refine as_ List.perm_append_comm ?_
   have hq1 : bi_ 3 1 sv1 (List.length (l ++ [rv])) (List.flatMap dg_ (l ++ [rv])) Hr1 := by rw [List.length_append, List.flatMap_append]; exact hr1
   refine d_ (p_ rfl (D_ (fun _ a b => ⟨aC_ a, b.2⟩) (P_ 1 [6] (by kernel_rfl) (fun _ a b => ⟨aC_ a, b.2⟩) (m_ rfl (h_ G_ rfl rfl rfl bc_) rfl (O_ (L_ 7 rfl (by kernel_rfl) (bQ_ 2 hq1 bc_ rfl rfl rfl rfl (d_ (p_ rfl ?_)))))))))
   refine D_ (fun _ a b => ⟨aC_ a, b.2⟩) (T_ (by kernel_rfl) (b_ rfl (c_ (a_ (ag_ rfl rfl rfl (aS_ (by first | omega | (have := dY_ hq8; omega)) (by first | omega | (have := dY_ hq8; omega)))) rfl (a_ (f_ rfl) rfl (d_ (p_ rfl ?_)))))))
   exact aU_ ⟨(i + 1, (l ++ [rv]), e1, sv1, Hr1), (by omega), fV_ hI (by omega) hi1, he1, (by rw [List.length_append, hll]; rfl), hq1⟩ (by dsimp only; omega) ⟨rfl, rfl, rfl, rfl, trivial⟩ (N_ (F_ (F_ C_)) (N_ (F_ C_) aK_)) (fun v _ h => by exact ⟨h.1, trivial⟩)
  ·
   refine ao_ (gF_ db e he) rfl (F_ C_) (fun v _ h => by exact ⟨h.1, trivial⟩) rfl (fun hb => cA_ ((by rw [cY_]; simp only [hq1, hq2, hq3, hq4, hq5, hq6, hq7, hq8, hq9, Option.bind_some]; rw [fU_ hI (by omega) hb]; rfl))) fun ⟨⟨rv, e1⟩, hi1, he1⟩ => ?_
   try dsimp only
   refine d_ (p_ rfl (D_ (fun _ a b => ⟨aC_ a, b.2⟩) ?_))
   refine cm_ 1 4 rfl rfl (by kernel_rfl) ?_ ?_
   ·
    refine a_ (n_ 1 bz_ rfl rfl rfl) rfl (d_ (p_ rfl (D_ (fun _ a b => ⟨aC_ a, b.2⟩) (L_ 4 rfl (by kernel_rfl) (be_ aj_ q_ cO_ rfl rfl rfl rfl rfl rfl fun b9 => ?_)))))
    refine d_ (p_ rfl (D_ (fun _ a b => ⟨aC_ a, b.2⟩) (L_ 5 rfl (by kernel_rfl) (bC_ (news := List.flatMap dg_ [rv]) hy_ hr_F rfl rfl (F_ (F_ aK_)) rfl (ce_ 0 rfl) (fun u hu => bH_ gz_ hu) (by simp only [maxLen]; omega) (by omega) rfl fun sv2 Hr2 hr2 => ?_))))
    refine as_ List.perm_append_comm ?_
    have hq2 : bi_ 3 1 sv2 (List.length (l ++ [rv])) (List.flatMap dg_ (l ++ [rv])) Hr2 := by rw [List.length_append, List.flatMap_append]; exact hr2
    refine d_ (p_ rfl (D_ (fun _ a b => ⟨aC_ a, b.2⟩) (P_ 1 [6] (by kernel_rfl) (fun _ a b => ⟨aC_ a, b.2⟩) (m_ rfl (h_ G_ rfl rfl rfl bc_) rfl (O_ (L_ 7 rfl (by kernel_rfl) (bQ_ 2 hq2 bc_ rfl rfl rfl rfl (d_ (p_ rfl ?_)))))))))
    refine D_ (fun _ a b => ⟨aC_ a, b.2⟩) (T_ (by kernel_rfl) (b_ rfl (c_ (a_ (ag_ rfl rfl rfl (aS_ (by first | omega | (have := dY_ hq8; omega)) (by first | omega | (have := dY_ hq8; omega)))) rfl (a_ (f_ rfl) rfl (d_ (p_ rfl ?_)))))))
    exact aU_ ⟨(i + 1, (l ++ [rv]), e1, sv2, Hr2), (by omega), fV_ hI (by omega) hi1, he1, (by rw [List.length_append, hll]; rfl), hq2⟩ (by dsimp only; omega) ⟨rfl, rfl, rfl, rfl, trivial⟩ (N_ (F_ (F_ C_)) (N_ (F_ C_) aK_)) (fun v _ h => by exact ⟨h.1, trivial⟩)
   ·
    refine be_ aj_ q_ cO_ rfl rfl rfl rfl rfl rfl fun b10 => ?_
    refine d_ (p_ rfl (D_ (fun _ a b => ⟨aC_ a, b.2⟩) (L_ 1 rfl (by kernel_rfl) (a_ (n_ 2 bz_ rfl rfl rfl) rfl (d_ (p_ rfl (D_ (fun _ a b => ⟨aC_ a, b.2⟩) (L_ 5 rfl (by kernel_rfl) (bC_ (news := List.flatMap dg_ [rv]) hy_ hr_F rfl rfl (F_ (F_ aK_)) rfl (ce_ 0 rfl) (fun u hu => bH_ gz_ hu) (by simp only [maxLen]; omega) (by omega) rfl fun sv3 Hr3 hr3 => ?_)))))))))
    refine as_ List.perm_append_comm ?_
    have hq3 : bi_ 3 1 sv3 (List.length (l ++ [rv])) (List.flatMap dg_ (l ++ [rv])) Hr3 := by rw [List.length_append, List.flatMap_append]; exact hr3
    refine d_ (p_ rfl (D_ (fun _ a b => ⟨aC_ a, b.2⟩) (P_ 1 [6] (by kernel_rfl) (fun _ a b => ⟨aC_ a, b.2⟩) (m_ rfl (h_ G_ rfl rfl rfl bc_) rfl (O_ (L_ 7 rfl (by kernel_rfl) (bQ_ 2 hq3 bc_ rfl rfl rfl rfl (d_ (p_ rfl ?_)))))))))
    refine D_ (fun _ a b => ⟨aC_ a, b.2⟩) (T_ (by kernel_rfl) (b_ rfl (c_ (a_ (ag_ rfl rfl rfl (aS_ (by first | omega | (have := dY_ hq8; omega)) (by first | omega | (have := dY_ hq8; omega)))) rfl (a_ (f_ rfl) rfl (d_ (p_ rfl ?_)))))))
    exact aU_ ⟨(i + 1, (l ++ [rv]), e1, sv3, Hr3), (by omega), fV_ hI (by omega) hi1, he1, (by rw [List.length_append, hll]; rfl), hq3⟩ (by dsimp only; omega) ⟨rfl, rfl, rfl, rfl, trivial⟩ (N_ (F_ (F_ C_)) (N_ (F_ C_) aK_)) (fun v _ h => by exact ⟨h.1, trivial⟩)
end Go.Proofs.YtaffcjgphlhppaaGreatDoor
namespace Go.Proofs.YtaffcjgphlhppaaGreatDoor
open Go Go.Sx Go.Proofs
attribute [local irreducible] Code.wp wpList wpAnyH
open Go.Vs
theorem oH_ {v : Vw} {F F' : Hp} {b c : Nat} {x y : Value} (hF : F.Perm ((b, .cells #[x] 27 (0, 0)) :: (c, .cells #[y] 31 (0, 0)) :: F')) (t : TypeId) (u : Value) (hs : v.sat F) :
    CallsD Tryz.prog 41 #[zp_ b 0, zp_ c 0] (.panicking (iz_ t u)) v.w fun e u' w' => e = .returned (.tuple #[]) ∧ u' = .panicking [{ v := .iface t u, recovered := true }] ∧ ∃ v' : Vw, v'.w = w' ∧ v'.sat ((b, .cells #[.slice none 0 0] 27 (0, 0)) :: (c, .cells #[.int .i64 120] 31 (0, 0)) :: F') ∧ v.to F v' ((b, .cells #[.slice none 0 0] 27 (0, 0)) :: (c, .cells #[.int .i64 120] 31 (0, 0)) :: F') := by
  have h2 := hs.perm hF
  have hb := (h2.own _ List.mem_cons_self).1
  have hbc : b ≠ c := by
    have := h2.nodup
    simp only [List.map_cons, List.nodup_cons, List.mem_cons, not_or] at this
    exact this.1.1
  have hcb : v.w.cell? ⟨b, 0, none⟩ = some x := by simp [World.cell?, hb]
  have hzb : v.w.frozen? ⟨b, 0, none⟩ = false := by simp [World.frozen?, hb]
  have hset : ((v.w.setCell ⟨b, 0, none⟩ (.slice none 0 0)).heap)[b]? = some (.cells #[.slice none 0 0] 27 (0, 0)) := by
    simp [World.setCell, Array.getElem?_modify, hb]
  have hoth : ∀ k, k ≠ b → ((v.w.setCell ⟨b, 0, none⟩ (.slice none 0 0)).heap)[k]? = v.w.heap[k]? := fun k hk => by
    simp [World.setCell, Array.getElem?_modify, Ne.symm hk]
  obtain ⟨g1, g2⟩ := eG_ (i := 0) (o' := .cells #[.slice none 0 0] 27 (0, 0)) (w' := v.w.setCell ⟨b, 0, none⟩ (.slice none 0 0)) h2 rfl rfl rfl rfl (Nat.le_refl _) (by simp [World.setCell]) hset hoth
  simp only [List.set_cons_zero] at g1 g2
  generalize hw : v.w.setCell ⟨b, 0, none⟩ (.slice none 0 0) = w1 at g1 g2
  have hc := (g1.own _ (List.mem_cons_of_mem _ List.mem_cons_self)).1
  simp only at hc
  have hcc : w1.cell? ⟨c, 0, none⟩ = some y := by simp [World.cell?, hc]
  have hzc : w1.frozen? ⟨c, 0, none⟩ = false := by simp [World.frozen?, hc]
  have hset2 : ((w1.setCell ⟨c, 0, none⟩ (.int .i64 120)).heap)[c]? = some (.cells #[.int .i64 120] 31 (0, 0)) := by
    simp [World.setCell, Array.getElem?_modify, hc]
  have hoth2 : ∀ k, k ≠ c → ((w1.setCell ⟨c, 0, none⟩ (.int .i64 120)).heap)[k]? = w1.heap[k]? := fun k hk => by
    simp [World.setCell, Array.getElem?_modify, Ne.symm hk]
  obtain ⟨k1, k2⟩ := eG_ (i := 1) (o' := .cells #[.int .i64 120] 31 (0, 0)) (w' := w1.setCell ⟨c, 0, none⟩ (.int .i64 120)) g1 rfl rfl rfl rfl (Nat.le_refl _) (by simp [World.setCell]) hset2 hoth2
  simp only [List.set_cons_succ, List.set_cons_zero] at k1 k2
  refine callsD_of_wpS Tryz.func41 rfl fun c₀ cs hu => ?_
  apply wpS_seq
  apply wpS_region
  simp [wpOpsS, go_sem, recoverD, hu, iz_, Tryz.ntmps41, Exit.thenS]
  refine wpS_cond (t := true) (by simp [Act.eval, Array.replicate]) ?_
  simp only [if_true]
  apply wpS_region
  simp [wpOpsS, go_sem, Instr.build, hcb, hzb, hw, hcc, hzc, bodyPostS, results, Tryz.results41, ca_, ab_, aO_, qa_]
  exact ⟨_, rfl, k1, (g2.trans k2).permL hF.symm⟩
theorem pI_ (b c : Nat) (w : World) : CallsD Tryz.prog 41 #[zp_ b 0, zp_ c 0] .returning w fun e u' w' => e = .returned (.tuple #[]) ∧ u' = .returning ∧ w' = w := by
  refine callsD_of_wpS Tryz.func41 rfl fun c₀ cs hu => ?_
  apply wpS_seq
  apply wpS_region
  simp [wpOpsS, go_sem, recoverD, hu, Tryz.ntmps41, Exit.thenS]
  refine wpS_cond (t := false) (by simp [Act.eval, Array.replicate]) ?_
  simp only [Bool.false_eq_true, if_false]
  refine wpS_of_wp (wp_skip ?_)
  cases c₀
  simp_all [bodyPostS, results, Tryz.results41]
theorem op_ (b c : Nat) (w : World) : (invoke (.fn (.func 41) #[zp_ b 0, zp_ c 0]) #[]).run Tryz.prog w = .ok (.enter 41 #[zp_ b 0, zp_ c 0]) w := by
  exact callable (P := Tryz.prog) Tryz.func41 rfl rfl #[zp_ b 0, zp_ c 0] w
def iw_ (r : Str) (l : List Stp) (e : Int) : Prop := (hp_ r = some (l.map Stp.ds) ∧ e = 0) ∨ (hp_ r = none ∧ l = [] ∧ e = 120)
theorem dT_ {n i : Nat} {l : List Ds} {r : Str} {X : Option (List Ds × Str)} (hX : X = (cy_ (n - i) r).map fun z => (l ++ z.1, z.2)) (hi : i < n) (h : eU_ r = none) : X = none := by
  obtain ⟨k, hk⟩ : ∃ k, n - i = k + 1 := ⟨n - i - 1, by omega⟩
  rw [hX, hk, cy_, h]; rfl
theorem cV_ {n i : Nat} {l : List Ds} {r r' : Str} {v : Ds} {X : Option (List Ds × Str)} (hX : X = (cy_ (n - i) r).map fun z => (l ++ z.1, z.2)) (hi : i < n) (h : eU_ r = some (v, r')) : X = (cy_ (n - (i + 1)) r').map fun z => ((l ++ [v]) ++ z.1, z.2) := by
  obtain ⟨k, hk⟩ : ∃ k, n - i = k + 1 := ⟨n - i - 1, by omega⟩
  rw [hX, hk, show n - (i + 1) = k by omega, cy_, h, Option.bind_some, Option.map_map]
  congr 1
  funext z
  simp
theorem iM_ {n i : Nat} {l : List Ds} {r : Str} {X : Option (List Ds × Str)} (hX : X = (cy_ (n - i) r).map fun z => (l ++ z.1, z.2)) (hi : n ≤ i) : X = some (l, r) := by
  rw [hX, show n - i = 0 by omega]; simp [cy_]
theorem panDg {P : Program} {fr : Fr} {N : Nat} {fn : Func} {ι : Type} {v0 : Vw} {H0 F HF' F' : Hp} {ret : ι → Value} {H' : ι → Hp} {Γ' : ι → List Fct} {fv : Fn} {cap dargs : Array Value} {g : FuncId} {cargs : Array Value} (x : ι)
    (hi : ∀ w, (invoke (.fn fv cap) dargs).run P w = .ok (.enter g cargs) w)
    (hc : ∀ (v : Vw) t u, v.sat F → CallsD P g cargs (.panicking (iz_ t u)) v.w fun e u' w' => e = .returned (.tuple #[]) ∧ u' = .panicking [{ v := .iface t u, recovered := true }] ∧ ∃ v' : Vw, v'.w = w' ∧ v'.sat HF' ∧ v.to F v' HF')
    (hx : ∀ (a : Act) (v : Vw), Fr.sat ⟨N, [{ target := .fn fv cap, args := dargs }]⟩ fr a → v.sat HF' → (results fn a.tmps).run P v.w = .ok (ret x) v.w) (hH : HF'.Perm (H' x ++ F')) (hΓ : ∀ v, aD_ (Γ' x) v) :
    gI_ (bodyPostD P fn (eS_ v0 H0 ret H' Γ')) ⟨N, [{ target := .fn fv cap, args := dargs }]⟩ v0 H0 fr F := fun a v t u h1 h2 h3 => by
  show Leaves P fn a.tmps _ a.defers (.panicking (iz_ t u)) v.w
  rw [h1.defers]
  refine leaves_cons (by simp) (hi v.w) ?_
  refine (hc v t u h2).mono ?_
  rintro e u' w' ⟨rfl, rfl, v', rfl, k1, k2⟩
  have h3' := h3.trans k2
  exact ⟨ret x, hx a v' h1 k1, x, v', rfl, rfl, (k1.perm hH).sub, hΓ v', h3'.subR fun b hb => by
    have : b ∈ (H' x ++ F').map Prod.fst := by rw [List.map_append]; exact List.mem_append_left _ hb
    exact (hH.map Prod.fst).mem_iff.2 this⟩
theorem md_ {P : Program} {N : Nf} {fr : Fr} {H : Hp} {fn : Func} {t s b c : Nat} {ty ty2 T T2 : TypeId} {u u2 : Value} (i j : Nat) (hr : fn.results = #[.cell t ty, .cell s ty2]) (ha : ∀ w, (isAgg ty).run P w = .ok true w) (hs : ∀ w, (sizeOf ty).run P w = .ok 1 w) (ha2 : ∀ w, (isAgg ty2).run P w = .ok false w)
    (hx : Fr.get fr t = some (zp_ b 0)) (hx2 : Fr.get fr s = some (zp_ c 0)) (hi : H[i]? = some (b, .cells #[u] T (0, 0))) (hj : H[j]? = some (c, .cells #[u2] T2 (0, 0))) (a : Act) (v : Vw) (h1 : Fr.sat N fr a) (h2 : v.sat H) :
    (results fn a.tmps).run P v.w = .ok (.tuple #[.agg #[u], u2]) v.w := by
  have e := h1.val t _ hx
  have e2 := h1.val s _ hx2
  have hl := bX_ (t := ty) (w := v.w) (b := b) (off := 0) (cs := [u]) ha hs rfl (fun j y hj => by rw [Nat.zero_add, ds_ h2 hi]; simpa using hj)
  have hb := (h2.own _ (List.mem_of_getElem? hj)).1
  have hc : v.w.cell? ⟨c, 0, none⟩ = some u2 := by simp [World.cell?, hb]
  simp [results, hr, e, e2, asAddr, hl, cc_ ha2 hc]
theorem Stp.cells_one (s : Stp) : s.cells.all Value.oneCell' = true := rfl
theorem fm_ {v0 : Vw} {H0 F F' : Hp} {fr : Fr} {b c : Nat} {x y : Value} {r : Str} (hX : hp_ r = none) (hx : Fr.get fr 2 = some (zp_ b 0)) (hx2 : Fr.get fr 3 = some (zp_ c 0)) (hF : F.Perm ((b, .cells #[x] 27 (0, 0)) :: (c, .cells #[y] 31 (0, 0)) :: F')) :
    gI_ (bodyPostD Tryz.prog Tryz.f17 (eS_ v0 H0 (fun y : {y : (List Stp × Option Addr × Nat) × Int // iw_ r y.1.1 y.2 ∧ y.1.1.length ≤ y.1.2.2 ∧ y.1.2.2 ≤ maxLen ∧ (y.1.2.1 = none → y.1.2.2 = 0)} => .tuple #[.agg #[.slice y.1.1.2.1 (List.length y.1.1.1) y.1.1.2.2], .int .i64 y.1.2]) (fun _ => []) (fun y => [aY_ y.1.1.2.1 (List.flatMap Stp.cells y.1.1.1), cP_ y.1.1.1]))) ⟨34, [{ target := .fn (.func 41) #[zp_ b 0, zp_ c 0], args := #[] }]⟩ v0 H0 fr F :=
  panDg (F' := (b, .cells #[.slice none 0 0] 27 (0, 0)) :: (c, .cells #[.int .i64 120] 31 (0, 0)) :: F') ⟨(([], none, 0), 120), .inr ⟨hX, rfl, rfl⟩, Nat.le_refl _, Nat.zero_le _, fun _ => rfl⟩ (op_ b c) (fun v t u hs => oH_ hF t u hs)
    (fun a v h1 h2 => md_ 0 1 Tryz.results17 bN_ aO_ Tryz.isAgg31 hx hx2 rfl rfl a v h1 h2) (.refl _) (fun v => ⟨.inl rfl, eo_, trivial⟩)
theorem dM_ : Elt Tryz.prog 25 36 9 112 := lc_ Tryz.underlying25 (z := .agg #[.int .i64 0, .int .i64 0, str [], str [], str [], .int .i64 0, .int .i64 0, .int .i64 0, .slice none 0 0]) (by kernel_rfl) rfl (by decide)
theorem strt92 : gH_ Tryz.prog 92 [(0, 1)] [.slice none 0 0] := ⟨_, Tryz.zeroValue92, dz_, fun w => by simp [ct_]⟩
theorem fH_ (r : Str) (ad : Option Addr) (cap : Nat) (hok : Dst.ok (Dst.mk ad cap r)) : Tri Tryz.prog 17 #[.slice ad (List.length r) cap] [] [aY_ ad (List.flatMap u8C r)] (fun y : {y : (List Stp × Option Addr × Nat) × Int // iw_ r y.1.1 y.2 ∧ y.1.1.length ≤ y.1.2.2 ∧ y.1.2.2 ≤ maxLen ∧ (y.1.2.1 = none → y.1.2.2 = 0)} => .tuple #[.agg #[.slice y.1.1.2.1 (List.length y.1.1.1) y.1.1.2.2], .int .i64 y.1.2]) (fun _ => []) (fun y => [aY_ y.1.1.2.1 (List.flatMap Stp.cells y.1.1.1), cP_ y.1.1.1]) := by
 refine gl_ Tryz.func17 rfl rfl Tryz.ntmps17 rfl fun v0 => ?_
 refine g_ (c_ (Z_ ca_ rfl fun b1 => ?_))
 refine Z_ Tryz.zeroValue31 rfl fun b2 => ?_
 refine d_ (b_ rfl (g_ (c_ (a_ (dx_ rfl rfl) rfl (iV_ (N := 34) (D := []) rfl rfl rfl (d_ (b_ rfl (g_ (c_ ?_)))))))))
 refine a_ (f_ rfl) rfl (a_ (ax_ strt92 rfl rfl) rfl (aM_ rfl rfl fun b3 => ?_))
 refine a_ (e_ rfl) rfl (d_ (b_ rfl (g_ (c_ (a_ (f_ rfl) rfl (ao_ (gF_ b3 (Dst.mk ad cap r) hok) rfl C_ (fun v _ h => by exact ⟨h.1, trivial⟩) rfl (fun hb => fm_ (r := r) ((by rw [dn_, hb]; rfl)) rfl rfl (N_ (F_ C_) C_)) fun ⟨⟨nv, d1⟩, hq1, hd1⟩ => ?_))))))
 try dsimp only
 refine a_ (e_ rfl) rfl (d_ (b_ rfl (g_ (c_ (a_ (f_ rfl) rfl (E_ (cb_ rfl rfl) rfl fun r1 hr1 => ?_))))))
 refine ao_ (dl_ r1) rfl x_ (fun _ _ _ => by exact trivial) rfl (fun hb => fm_ (r := r) ((by rw [dn_, hq1, Option.bind_some, if_neg (fun q => by rw [hb] at hr1; simp at hr1; omega)])) rfl rfl (N_ (F_ (F_ C_)) (F_ C_))) fun ⟨_, hn1⟩ => ?_
 try dsimp only
 have hn1 : nv ≤ 65536 := by have z := hr1; rw [hn1] at z; simp at z; omega
 refine d_ (b_ rfl (g_ (g_ (c_ (a_ (f_ rfl) rfl (a_ (f_ rfl) rfl (d_ (b_ rfl (ae_ ?_)))))))))
 have hbd := dY_ hq1
 refine bt_ (ι := {y : Nat × List Stp × Dst × Value × Hp // (y.1 : Int) ≤ nv ∧ cy_ (Int.toNat nv) d1.r = (cy_ (Int.toNat nv - y.1) y.2.2.1.r).map (fun z => (List.map Stp.ds y.2.1 ++ z.1, z.2)) ∧ Dst.ok y.2.2.1 ∧ List.length y.2.1 = y.1 ∧ bi_ 36 9 y.2.2.2.1 (List.length y.2.1) (List.flatMap Stp.cells y.2.1) y.2.2.2.2}) (fun y => [(2, zp_ b1 0), (3, zp_ b2 0), (4, zp_ b3 0), (15, .int .i64 nv), (16, .int .i64 (y.1.1 : Int))]) (fun y => ((b1, .cells #[y.1.2.2.2.1] 27 (0, 0)) :: ((b2, .cells #[.int .i64 0] 31 (0, 0)) :: ((b3, .cells #[.slice (Dst.ad y.1.2.2.1) (List.length (Dst.r y.1.2.2.1)) (Dst.cap y.1.2.2.1)] 92 (0, 0)) :: y.1.2.2.2.2)))) (fun y => [aY_ (Dst.ad y.1.2.2.1) (List.flatMap u8C (Dst.r y.1.2.2.1)), cP_ y.1.2.1]) (fun y => Int.toNat nv - y.1.1) ⟨((0 : Nat), ([] : List Stp), d1, (.slice none 0 0), []), (by dsimp only; omega), (by simp), hd1, rfl, (bi_.nil _ _)⟩ ⟨rfl, rfl, rfl, rfl, rfl, trivial⟩ (N_ (F_ (F_ C_)) (N_ (F_ C_) C_)) (fun v _ h => by exact ⟨h.1, eo_, trivial⟩) ?_
 rintro ⟨⟨i, l, e, sv_S, H_S⟩, hi, hI, he, hll, hr_S⟩
 dsimp only at hi hI he hll hr_S ⊢
 refine g_ (c_ (E_ (au_ rfl rfl) rfl fun r2 hr2 => ?_))
 refine d_ (b_ rfl (g_ ?_))
 cases r2
 ·
  replace hr2 := of_decide_eq_false hr2
  refine A_ rfl (bj_ rfl (b_ rfl (g_ (c_ (a_ (f_ rfl) rfl (a_ (bk_ rfl) rfl (a_ (h_ dz_ rfl rfl rfl ct_) rfl (a_ (n_ 2 dX_ rfl rfl rfl) rfl (a_ (aA_ aE_ rfl) rfl ?_)))))))))
  refine E_ (aG_ rfl rfl) rfl fun r3 hr3 => ?_
  refine ao_ (dl_ r3) rfl x_ (fun _ _ _ => by exact trivial) rfl (fun hb => fm_ (r := r) ((by rw [dn_, hq1, Option.bind_some, if_pos hn1, iM_ hI (by omega), Option.bind_some, if_neg (fun q => by dsimp only at q; rw [q, hb] at hr3; simp at hr3)])) rfl rfl (N_ C_ C_)) fun ⟨_, hn2⟩ => ?_
  try dsimp only
  have hn2 : e.r = [] := by have z := hr3; rw [hn2] at z; simpa using z
  refine d_ (b_ rfl (g_ (cf_ hr_S (F_ (F_ aK_)) fun sad scap hsad hcsad hmsad hzsad => ?_)))
  subst hsad
  refine c_ (a_ (M_ 0 bN_ aO_ rfl rfl rfl) rfl (Q_ 0 aO_ rfl rfl rfl rfl rfl rfl (Q_ 1 qa_ rfl rfl rfl rfl rfl rfl (d_ (b_ rfl (u_ ?_))))))
  have hfin : iw_ r l 0 := .inl ⟨by rw [dn_, hq1, Option.bind_some, if_pos hn1, iM_ hI (by omega), Option.bind_some, if_pos hn2], rfl⟩
  exact nO_ (F := _) ⟨((l, sad, scap), 0), hfin, hcsad, hmsad, hzsad⟩ (op_ b1 b2) (pI_ b1 b2) (fun a v h1 h2 => md_ 0 1 Tryz.results17 bN_ aO_ Tryz.isAgg31 rfl rfl rfl rfl a v h1 h2) x_ (fun v _ h => by exact ⟨h.1, h.2.2.1, trivial⟩)
 ·
  replace hr2 := of_decide_eq_true hr2
  refine w_ rfl (J_ (b_ rfl (g_ (ae_ ?_))))
  refine cn_ ([]) (by kernel_rfl) ?_
  refine cm_ 0 2 rfl rfl (by kernel_rfl) ?_ ?_
  ·
   refine a_ (h_ ab_ rfl rfl rfl al_) rfl (d_ (p_ rfl (D_ (fun _ a b => ⟨aC_ a, b⟩) ?_)))
   refine cm_ 1 2 rfl rfl (by kernel_rfl) ?_ ?_
   ·
    refine a_ (n_ 0 bd_ rfl rfl rfl) rfl (d_ (p_ rfl (D_ (fun _ a b => ⟨aC_ a, b⟩) (L_ 2 rfl (by kernel_rfl) (a_ (f_ rfl) rfl (d_ (p_ rfl (D_ (fun _ a b => ⟨aC_ a, b⟩) (L_ 3 rfl (by kernel_rfl) ?_)))))))))
    refine ao_ (fX_ b3 e he) rfl (F_ (F_ C_)) (fun v _ h => by exact ⟨h.1, trivial⟩) rfl (fun hb => fm_ (r := r) ((by rw [dn_, hq1, Option.bind_some, if_pos hn1, dT_ hI (by omega) hb]; rfl)) rfl rfl (N_ C_ C_)) fun ⟨⟨sp, e1⟩, hs1, he1⟩ => ?_
    try dsimp only
    refine d_ (p_ rfl (D_ (fun _ a b => ⟨aC_ a, b.2.2⟩) (L_ 4 rfl (by kernel_rfl) (be_ af_ ak_ bb_ rfl rfl rfl rfl rfl rfl fun b4 => ?_))))
    refine d_ (p_ rfl (D_ (fun _ a b => ⟨aC_ a, b.2.2⟩) (L_ 5 rfl (by kernel_rfl) (bC_ (news := List.flatMap Stp.cells [sp]) dM_ hr_S rfl rfl (F_ (F_ (F_ aK_))) rfl (ce_ 0 rfl) (fun u hu => bH_ Stp.cells_one hu) (by simp only [maxLen]; omega) (by omega) rfl fun sv1 Hr1 hr1 => ?_))))
    refine as_ List.perm_append_comm ?_
    have hq1 : bi_ 36 9 sv1 (List.length (l ++ [sp])) (List.flatMap Stp.cells (l ++ [sp])) Hr1 := by rw [List.length_append, List.flatMap_append]; exact hr1
    refine d_ (p_ rfl (D_ (fun _ a b => ⟨aC_ a, b.2.2⟩) (L_ 6 rfl (by kernel_rfl) (a_ (h_ ab_ rfl rfl rfl al_) rfl (d_ (p_ rfl (D_ (fun _ a b => ⟨aC_ a, b.2.2⟩) (L_ 7 rfl (by kernel_rfl) (bQ_ 2 hq1 al_ rfl rfl rfl rfl ?_)))))))))
    refine d_ (p_ rfl (D_ (fun _ a b => ⟨aC_ a, b.2.2⟩) (T_ (by kernel_rfl) (b_ rfl (c_ (a_ (ag_ rfl rfl rfl (aS_ (by omega) (by omega))) rfl (a_ (f_ rfl) rfl (d_ (p_ rfl ?_)))))))))
    exact aU_ ⟨(i + 1, (l ++ [sp]), e1, sv1, Hr1), (by omega), (by rw [List.map_append]; exact cV_ hI (by omega) hs1), he1, (by rw [List.length_append, hll]; rfl), hq1⟩ (by dsimp only; omega) ⟨rfl, rfl, rfl, rfl, rfl, trivial⟩ (N_ (F_ (F_ C_)) (N_ (F_ (F_ C_)) (N_ (F_ C_) aK_))) (fun v _ h => by exact ⟨h.2.1, cH_ h.2.2.2.1 h.1, trivial⟩)
   ·
    refine a_ (f_ rfl) rfl (d_ (p_ rfl (D_ (fun _ a b => ⟨aC_ a, b⟩) ?_)))
    refine cm_ 1 3 rfl rfl (by kernel_rfl) ?_ ?_
    ·
     refine a_ (n_ 0 bd_ rfl rfl rfl) rfl (d_ (p_ rfl (D_ (fun _ a b => ⟨aC_ a, b⟩) (L_ 3 rfl (by kernel_rfl) (ao_ (fX_ b3 e he) rfl (F_ (F_ C_)) (fun v _ h => by exact ⟨h.1, trivial⟩) rfl (fun hb => fm_ (r := r) ((by rw [dn_, hq1, Option.bind_some, if_pos hn1, dT_ hI (by omega) hb]; rfl)) rfl rfl (N_ C_ C_)) fun ⟨⟨sp, e1⟩, hs1, he1⟩ => ?_)))))
     try dsimp only
     refine d_ (p_ rfl (D_ (fun _ a b => ⟨aC_ a, b.2.2⟩) (L_ 4 rfl (by kernel_rfl) (be_ af_ ak_ bb_ rfl rfl rfl rfl rfl rfl fun b5 => ?_))))
     refine d_ (p_ rfl (D_ (fun _ a b => ⟨aC_ a, b.2.2⟩) (L_ 5 rfl (by kernel_rfl) (bC_ (news := List.flatMap Stp.cells [sp]) dM_ hr_S rfl rfl (F_ (F_ (F_ aK_))) rfl (ce_ 0 rfl) (fun u hu => bH_ Stp.cells_one hu) (by simp only [maxLen]; omega) (by omega) rfl fun sv2 Hr2 hr2 => ?_))))
     refine as_ List.perm_append_comm ?_
     have hq2 : bi_ 36 9 sv2 (List.length (l ++ [sp])) (List.flatMap Stp.cells (l ++ [sp])) Hr2 := by rw [List.length_append, List.flatMap_append]; exact hr2
     refine d_ (p_ rfl (D_ (fun _ a b => ⟨aC_ a, b.2.2⟩) (L_ 6 rfl (by kernel_rfl) (a_ (h_ ab_ rfl rfl rfl al_) rfl (d_ (p_ rfl (D_ (fun _ a b => ⟨aC_ a, b.2.2⟩) (L_ 7 rfl (by kernel_rfl) (bQ_ 2 hq2 al_ rfl rfl rfl rfl ?_)))))))))
     refine d_ (p_ rfl (D_ (fun _ a b => ⟨aC_ a, b.2.2⟩) (T_ (by kernel_rfl) (b_ rfl (c_ (a_ (ag_ rfl rfl rfl (aS_ (by omega) (by omega))) rfl (a_ (f_ rfl) rfl (d_ (p_ rfl ?_)))))))))
     exact aU_ ⟨(i + 1, (l ++ [sp]), e1, sv2, Hr2), (by omega), (by rw [List.map_append]; exact cV_ hI (by omega) hs1), he1, (by rw [List.length_append, hll]; rfl), hq2⟩ (by dsimp only; omega) ⟨rfl, rfl, rfl, rfl, rfl, trivial⟩ (N_ (F_ (F_ C_)) (N_ (F_ (F_ C_)) (N_ (F_ C_) aK_))) (fun v _ h => by exact ⟨h.2.1, cH_ h.2.2.2.1 h.1, trivial⟩)
    ·
     refine ao_ (fX_ b3 e he) rfl (F_ (F_ C_)) (fun v _ h => by exact ⟨h.1, trivial⟩) rfl (fun hb => fm_ (r := r) ((by rw [dn_, hq1, Option.bind_some, if_pos hn1, dT_ hI (by omega) hb]; rfl)) rfl rfl (N_ C_ C_)) fun ⟨⟨sp, e1⟩, hs1, he1⟩ => ?_
     try dsimp only
     refine d_ (p_ rfl (D_ (fun _ a b => ⟨aC_ a, b.2.2⟩) ?_))
     refine cm_ 1 4 rfl rfl (by kernel_rfl) ?_ ?_
     ·
      refine a_ (n_ 1 bd_ rfl rfl rfl) rfl (d_ (p_ rfl (D_ (fun _ a b => ⟨aC_ a, b.2.2⟩) (L_ 4 rfl (by kernel_rfl) (be_ af_ ak_ bb_ rfl rfl rfl rfl rfl rfl fun b6 => ?_)))))
      refine d_ (p_ rfl (D_ (fun _ a b => ⟨aC_ a, b.2.2⟩) (L_ 5 rfl (by kernel_rfl) (bC_ (news := List.flatMap Stp.cells [sp]) dM_ hr_S rfl rfl (F_ (F_ (F_ aK_))) rfl (ce_ 0 rfl) (fun u hu => bH_ Stp.cells_one hu) (by simp only [maxLen]; omega) (by omega) rfl fun sv3 Hr3 hr3 => ?_))))
      refine as_ List.perm_append_comm ?_
      have hq3 : bi_ 36 9 sv3 (List.length (l ++ [sp])) (List.flatMap Stp.cells (l ++ [sp])) Hr3 := by rw [List.length_append, List.flatMap_append]; exact hr3
      refine d_ (p_ rfl (D_ (fun _ a b => ⟨aC_ a, b.2.2⟩) (L_ 6 rfl (by kernel_rfl) (a_ (h_ ab_ rfl rfl rfl al_) rfl (d_ (p_ rfl (D_ (fun _ a b => ⟨aC_ a, b.2.2⟩) (L_ 7 rfl (by kernel_rfl) (bQ_ 2 hq3 al_ rfl rfl rfl rfl ?_)))))))))
      refine d_ (p_ rfl (D_ (fun _ a b => ⟨aC_ a, b.2.2⟩) (T_ (by kernel_rfl) (b_ rfl (c_ (a_ (ag_ rfl rfl rfl (aS_ (by omega) (by omega))) rfl (a_ (f_ rfl) rfl (d_ (p_ rfl ?_)))))))))
      exact aU_ ⟨(i + 1, (l ++ [sp]), e1, sv3, Hr3), (by omega), (by rw [List.map_append]; exact cV_ hI (by omega) hs1), he1, (by rw [List.length_append, hll]; rfl), hq3⟩ (by dsimp only; omega) ⟨rfl, rfl, rfl, rfl, rfl, trivial⟩ (N_ (F_ (F_ C_)) (N_ (F_ (F_ C_)) (N_ (F_ C_) aK_))) (fun v _ h => by exact ⟨h.2.1, cH_ h.2.2.2.1 h.1, trivial⟩)
     ·
      refine be_ af_ ak_ bb_ rfl rfl rfl rfl rfl rfl fun b7 => ?_
      refine d_ (p_ rfl (D_ (fun _ a b => ⟨aC_ a, b.2.2⟩) (L_ 1 rfl (by kernel_rfl) (a_ (n_ 2 bd_ rfl rfl rfl) rfl (d_ (p_ rfl (D_ (fun _ a b => ⟨aC_ a, b.2.2⟩) (L_ 5 rfl (by kernel_rfl) (bC_ (news := List.flatMap Stp.cells [sp]) dM_ hr_S rfl rfl (F_ (F_ (F_ aK_))) rfl (ce_ 0 rfl) (fun u hu => bH_ Stp.cells_one hu) (by simp only [maxLen]; omega) (by omega) rfl fun sv4 Hr4 hr4 => ?_)))))))))
      refine as_ List.perm_append_comm ?_
      have hq4 : bi_ 36 9 sv4 (List.length (l ++ [sp])) (List.flatMap Stp.cells (l ++ [sp])) Hr4 := by rw [List.length_append, List.flatMap_append]; exact hr4
      refine d_ (p_ rfl (D_ (fun _ a b => ⟨aC_ a, b.2.2⟩) (L_ 6 rfl (by kernel_rfl) (a_ (h_ ab_ rfl rfl rfl al_) rfl (d_ (p_ rfl (D_ (fun _ a b => ⟨aC_ a, b.2.2⟩) (L_ 7 rfl (by kernel_rfl) (bQ_ 2 hq4 al_ rfl rfl rfl rfl ?_)))))))))
      refine d_ (p_ rfl (D_ (fun _ a b => ⟨aC_ a, b.2.2⟩) (T_ (by kernel_rfl) (b_ rfl (c_ (a_ (ag_ rfl rfl rfl (aS_ (by omega) (by omega))) rfl (a_ (f_ rfl) rfl (d_ (p_ rfl ?_)))))))))
      exact aU_ ⟨(i + 1, (l ++ [sp]), e1, sv4, Hr4), (by omega), (by rw [List.map_append]; exact cV_ hI (by omega) hs1), he1, (by rw [List.length_append, hll]; rfl), hq4⟩ (by dsimp only; omega) ⟨rfl, rfl, rfl, rfl, rfl, trivial⟩ (N_ (F_ (F_ C_)) (N_ (F_ (F_ C_)) (N_ (F_ C_) aK_))) (fun v _ h => by exact ⟨h.2.1, cH_ h.2.2.2.1 h.1, trivial⟩)
  ·
   refine a_ (f_ rfl) rfl (d_ (p_ rfl (D_ (fun _ a b => ⟨aC_ a, b⟩) ?_)))
   refine cm_ 0 3 rfl rfl (by kernel_rfl) ?_ ?_
   ·
    refine a_ (h_ ab_ rfl rfl rfl al_) rfl (d_ (p_ rfl (D_ (fun _ a b => ⟨aC_ a, b⟩) ?_)))
    refine cm_ 1 3 rfl rfl (by kernel_rfl) ?_ ?_
    ·
     refine a_ (n_ 0 bd_ rfl rfl rfl) rfl (d_ (p_ rfl (D_ (fun _ a b => ⟨aC_ a, b⟩) (L_ 3 rfl (by kernel_rfl) (ao_ (fX_ b3 e he) rfl (F_ (F_ C_)) (fun v _ h => by exact ⟨h.1, trivial⟩) rfl (fun hb => fm_ (r := r) ((by rw [dn_, hq1, Option.bind_some, if_pos hn1, dT_ hI (by omega) hb]; rfl)) rfl rfl (N_ C_ C_)) fun ⟨⟨sp, e1⟩, hs1, he1⟩ => ?_)))))
     try dsimp only
     refine d_ (p_ rfl (D_ (fun _ a b => ⟨aC_ a, b.2.2⟩) (L_ 4 rfl (by kernel_rfl) (be_ af_ ak_ bb_ rfl rfl rfl rfl rfl rfl fun b8 => ?_))))
     refine d_ (p_ rfl (D_ (fun _ a b => ⟨aC_ a, b.2.2⟩) (L_ 5 rfl (by kernel_rfl) (bC_ (news := List.flatMap Stp.cells [sp]) dM_ hr_S rfl rfl (F_ (F_ (F_ aK_))) rfl (ce_ 0 rfl) (fun u hu => bH_ Stp.cells_one hu) (by simp only [maxLen]; omega) (by omega) rfl fun sv5 Hr5 hr5 => ?_))))
     refine as_ List.perm_append_comm ?_
     have hq5 : bi_ 36 9 sv5 (List.length (l ++ [sp])) (List.flatMap Stp.cells (l ++ [sp])) Hr5 := by rw [List.length_append, List.flatMap_append]; exact hr5
     refine d_ (p_ rfl (D_ (fun _ a b => ⟨aC_ a, b.2.2⟩) (L_ 6 rfl (by kernel_rfl) (a_ (h_ ab_ rfl rfl rfl al_) rfl (d_ (p_ rfl (D_ (fun _ a b => ⟨aC_ a, b.2.2⟩) (L_ 7 rfl (by kernel_rfl) (bQ_ 2 hq5 al_ rfl rfl rfl rfl ?_)))))))))
     refine d_ (p_ rfl (D_ (fun _ a b => ⟨aC_ a, b.2.2⟩) (T_ (by kernel_rfl) (b_ rfl (c_ (a_ (ag_ rfl rfl rfl (aS_ (by omega) (by omega))) rfl (a_ (f_ rfl) rfl (d_ (p_ rfl ?_)))))))))
     exact aU_ ⟨(i + 1, (l ++ [sp]), e1, sv5, Hr5), (by omega), (by rw [List.map_append]; exact cV_ hI (by omega) hs1), he1, (by rw [List.length_append, hll]; rfl), hq5⟩ (by dsimp only; omega) ⟨rfl, rfl, rfl, rfl, rfl, trivial⟩ (N_ (F_ (F_ C_)) (N_ (F_ (F_ C_)) (N_ (F_ C_) aK_))) (fun v _ h => by exact ⟨h.2.1, cH_ h.2.2.2.1 h.1, trivial⟩)
    ·
     refine ao_ (fX_ b3 e he) rfl (F_ (F_ C_)) (fun v _ h => by exact ⟨h.1, trivial⟩) rfl (fun hb => fm_ (r := r) ((by rw [dn_, hq1, Option.bind_some, if_pos hn1, dT_ hI (by omega) hb]; rfl)) rfl rfl (N_ C_ C_)) fun ⟨⟨sp, e1⟩, hs1, he1⟩ => ?_
     try dsimp only
     refine d_ (p_ rfl (D_ (fun _ a b => ⟨aC_ a, b.2.2⟩) ?_))
     refine cm_ 1 4 rfl rfl (by kernel_rfl) ?_ ?_
     ·
      refine a_ (n_ 1 bd_ rfl rfl rfl) rfl (d_ (p_ rfl (D_ (fun _ a b => ⟨aC_ a, b.2.2⟩) (L_ 4 rfl (by kernel_rfl) (be_ af_ ak_ bb_ rfl rfl rfl rfl rfl rfl fun b9 => ?_)))))
      refine d_ (p_ rfl (D_ (fun _ a b => ⟨aC_ a, b.2.2⟩) (L_ 5 rfl (by kernel_rfl) (bC_ (news := List.flatMap Stp.cells [sp]) dM_ hr_S rfl rfl (F_ (F_ (F_ aK_))) rfl (ce_ 0 rfl) (fun u hu => bH_ Stp.cells_one hu) (by simp only [maxLen]; omega) (by omega) rfl fun sv6 Hr6 hr6 => ?_))))
      refine as_ List.perm_append_comm ?_
      have hq6 : bi_ 36 9 sv6 (List.length (l ++ [sp])) (List.flatMap Stp.cells (l ++ [sp])) Hr6 := by rw [List.length_append, List.flatMap_append]; exact hr6
      refine d_ (p_ rfl (D_ (fun _ a b => ⟨aC_ a, b.2.2⟩) (L_ 6 rfl (by kernel_rfl) (a_ (h_ ab_ rfl rfl rfl al_) rfl (d_ (p_ rfl (D_ (fun _ a b => ⟨aC_ a, b.2.2⟩) (L_ 7 rfl (by kernel_rfl) (bQ_ 2 hq6 al_ rfl rfl rfl rfl ?_)))))))))
      refine d_ (p_ rfl (D_ (fun _ a b => ⟨aC_ a, b.2.2⟩) (T_ (by kernel_rfl) (b_ rfl (c_ (a_ (ag_ rfl rfl rfl (aS_ (by omega) (by omega))) rfl (a_ (f_ rfl) rfl (d_ (p_ rfl ?_)))))))))
      exact aU_ ⟨(i + 1, (l ++ [sp]), e1, sv6, Hr6), (by omega), (by rw [List.map_append]; exact cV_ hI (by omega) hs1), he1, (by rw [List.length_append, hll]; rfl), hq6⟩ (by dsimp only; omega) ⟨rfl, rfl, rfl, rfl, rfl, trivial⟩ (N_ (F_ (F_ C_)) (N_ (F_ (F_ C_)) (N_ (F_ C_) aK_))) (fun v _ h => by exact ⟨h.2.1, cH_ h.2.2.2.1 h.1, trivial⟩)
     ·
      refine be_ af_ ak_ bb_ rfl rfl rfl rfl rfl rfl fun b10 => ?_
      refine d_ (p_ rfl (D_ (fun _ a b => ⟨aC_ a, b.2.2⟩) (L_ 1 rfl (by kernel_rfl) (a_ (n_ 2 bd_ rfl rfl rfl) rfl (d_ (p_ rfl (D_ (fun _ a b => ⟨aC_ a, b.2.2⟩) (L_ 5 rfl (by kernel_rfl) (bC_ (news := List.flatMap Stp.cells [sp]) dM_ hr_S rfl rfl (F_ (F_ (F_ aK_))) rfl (ce_ 0 rfl) (fun u hu => bH_ Stp.cells_one hu) (by simp only [maxLen]; omega) (by omega) rfl fun sv7 Hr7 hr7 => ?_)))))))))
      refine as_ List.perm_append_comm ?_
      have hq7 : bi_ 36 9 sv7 (List.length (l ++ [sp])) (List.flatMap Stp.cells (l ++ [sp])) Hr7 := by rw [List.length_append, List.flatMap_append]; exact hr7
      refine d_ (p_ rfl (D_ (fun _ a b => ⟨aC_ a, b.2.2⟩) (L_ 6 rfl (by kernel_rfl) (a_ (h_ ab_ rfl rfl rfl al_) rfl (d_ (p_ rfl (D_ (fun _ a b => ⟨aC_ a, b.2.2⟩) (L_ 7 rfl (by kernel_rfl) (bQ_ 2 hq7 al_ rfl rfl rfl rfl ?_)))))))))
      refine d_ (p_ rfl (D_ (fun _ a b => ⟨aC_ a, b.2.2⟩) (T_ (by kernel_rfl) (b_ rfl (c_ (a_ (ag_ rfl rfl rfl (aS_ (by omega) (by omega))) rfl (a_ (f_ rfl) rfl (d_ (p_ rfl ?_)))))))))
      exact aU_ ⟨(i + 1, (l ++ [sp]), e1, sv7, Hr7), (by omega), (by rw [List.map_append]; exact cV_ hI (by omega) hs1), he1, (by rw [List.length_append, hll]; rfl), hq7⟩ (by dsimp only; omega) ⟨rfl, rfl, rfl, rfl, rfl, trivial⟩ (N_ (F_ (F_ C_)) (N_ (F_ (F_ C_)) (N_ (F_ C_) aK_))) (fun v _ h => by exact ⟨h.2.1, cH_ h.2.2.2.1 h.1, trivial⟩)
   ·
    refine ao_ (fX_ b3 e he) rfl (F_ (F_ C_)) (fun v _ h => by exact ⟨h.1, trivial⟩) rfl (fun hb => fm_ (r := r) ((by rw [dn_, hq1, Option.bind_some, if_pos hn1, dT_ hI (by omega) hb]; rfl)) rfl rfl (N_ C_ C_)) fun ⟨⟨sp, e1⟩, hs1, he1⟩ => ?_
    try dsimp only
    refine d_ (p_ rfl (D_ (fun _ a b => ⟨aC_ a, b.2.2⟩) ?_))
    refine cm_ 0 4 rfl rfl (by kernel_rfl) ?_ ?_
    ·
     refine a_ (h_ ab_ rfl rfl rfl al_) rfl (d_ (p_ rfl (D_ (fun _ a b => ⟨aC_ a, b.2.2⟩) ?_)))
     refine cm_ 1 4 rfl rfl (by kernel_rfl) ?_ ?_
     ·
      refine a_ (n_ 1 bd_ rfl rfl rfl) rfl (d_ (p_ rfl (D_ (fun _ a b => ⟨aC_ a, b.2.2⟩) (L_ 4 rfl (by kernel_rfl) (be_ af_ ak_ bb_ rfl rfl rfl rfl rfl rfl fun b11 => ?_)))))
      refine d_ (p_ rfl (D_ (fun _ a b => ⟨aC_ a, b.2.2⟩) (L_ 5 rfl (by kernel_rfl) (bC_ (news := List.flatMap Stp.cells [sp]) dM_ hr_S rfl rfl (F_ (F_ (F_ aK_))) rfl (ce_ 0 rfl) (fun u hu => bH_ Stp.cells_one hu) (by simp only [maxLen]; omega) (by omega) rfl fun sv8 Hr8 hr8 => ?_))))
      refine as_ List.perm_append_comm ?_
      have hq8 : bi_ 36 9 sv8 (List.length (l ++ [sp])) (List.flatMap Stp.cells (l ++ [sp])) Hr8 := by rw [List.length_append, List.flatMap_append]; exact hr8
      refine d_ (p_ rfl (D_ (fun _ a b => ⟨aC_ a, b.2.2⟩) (L_ 6 rfl (by kernel_rfl) (a_ (h_ ab_ rfl rfl rfl al_) rfl (d_ (p_ rfl (D_ (fun _ a b => ⟨aC_ a, b.2.2⟩) (L_ 7 rfl (by kernel_rfl) (bQ_ 2 hq8 al_ rfl rfl rfl rfl ?_)))))))))
      refine d_ (p_ rfl (D_ (fun _ a b => ⟨aC_ a, b.2.2⟩) (T_ (by kernel_rfl) (b_ rfl (c_ (a_ (ag_ rfl rfl rfl (aS_ (by omega) (by omega))) rfl (a_ (f_ rfl) rfl (d_ (p_ rfl ?_)))))))))
      exact aU_ ⟨(i + 1, (l ++ [sp]), e1, sv8, Hr8), (by omega), (by rw [List.map_append]; exact cV_ hI (by omega) hs1), he1, (by rw [List.length_append, hll]; rfl), hq8⟩ (by dsimp only; omega) ⟨rfl, rfl, rfl, rfl, rfl, trivial⟩ (N_ (F_ (F_ C_)) (N_ (F_ (F_ C_)) (N_ (F_ C_) aK_))) (fun v _ h => by exact ⟨h.2.1, cH_ h.2.2.2.1 h.1, trivial⟩)
     ·
      refine be_ af_ ak_ bb_ rfl rfl rfl rfl rfl rfl fun b12 => ?_
      refine d_ (p_ rfl (D_ (fun _ a b => ⟨aC_ a, b.2.2⟩) (L_ 1 rfl (by kernel_rfl) (a_ (n_ 2 bd_ rfl rfl rfl) rfl (d_ (p_ rfl (D_ (fun _ a b => ⟨aC_ a, b.2.2⟩) (L_ 5 rfl (by kernel_rfl) (bC_ (news := List.flatMap Stp.cells [sp]) dM_ hr_S rfl rfl (F_ (F_ (F_ aK_))) rfl (ce_ 0 rfl) (fun u hu => bH_ Stp.cells_one hu) (by simp only [maxLen]; omega) (by omega) rfl fun sv9 Hr9 hr9 => ?_)))))))))
      refine as_ List.perm_append_comm ?_
      have hq9 : bi_ 36 9 sv9 (List.length (l ++ [sp])) (List.flatMap Stp.cells (l ++ [sp])) Hr9 := by rw [List.length_append, List.flatMap_append]; exact hr9
      refine d_ (p_ rfl (D_ (fun _ a b => ⟨aC_ a, b.2.2⟩) (L_ 6 rfl (by kernel_rfl) (a_ (h_ ab_ rfl rfl rfl al_) rfl (d_ (p_ rfl (D_ (fun _ a b => ⟨aC_ a, b.2.2⟩) (L_ 7 rfl (by kernel_rfl) (bQ_ 2 hq9 al_ rfl rfl rfl rfl ?_)))))))))
      refine d_ (p_ rfl (D_ (fun _ a b => ⟨aC_ a, b.2.2⟩) (T_ (by kernel_rfl) (b_ rfl (c_ (a_ (ag_ rfl rfl rfl (aS_ (by omega) (by omega))) rfl (a_ (f_ rfl) rfl (d_ (p_ rfl ?_)))))))))
      exact aU_ ⟨(i + 1, (l ++ [sp]), e1, sv9, Hr9), (by omega), (by rw [List.map_append]; exact cV_ hI (by omega) hs1), he1, (by rw [List.length_append, hll]; rfl), hq9⟩ (by dsimp only; omega) ⟨rfl, rfl, rfl, rfl, rfl, trivial⟩ (N_ (F_ (F_ C_)) (N_ (F_ (F_ C_)) (N_ (F_ C_) aK_))) (fun v _ h => by exact ⟨h.2.1, cH_ h.2.2.2.1 h.1, trivial⟩)
    ·
     refine be_ af_ ak_ bb_ rfl rfl rfl rfl rfl rfl fun b13 => ?_
     refine d_ (p_ rfl (D_ (fun _ a b => ⟨aC_ a, b.2.2⟩) (L_ 0 rfl (by kernel_rfl) (a_ (h_ ab_ rfl rfl rfl al_) rfl (d_ (p_ rfl (D_ (fun _ a b => ⟨aC_ a, b.2.2⟩) (L_ 1 rfl (by kernel_rfl) (a_ (n_ 2 bd_ rfl rfl rfl) rfl ?_)))))))))
     refine d_ (p_ rfl (D_ (fun _ a b => ⟨aC_ a, b.2.2⟩) (L_ 5 rfl (by kernel_rfl) (bC_ (news := List.flatMap Stp.cells [sp]) dM_ hr_S rfl rfl (F_ (F_ (F_ aK_))) rfl (ce_ 0 rfl) (fun u hu => bH_ Stp.cells_one hu) (by simp only [maxLen]; omega) (by omega) rfl fun sv10 Hr10 hr10 => ?_))))
     refine as_ List.perm_append_comm ?_
     have hq10 : bi_ 36 9 sv10 (List.length (l ++ [sp])) (List.flatMap Stp.cells (l ++ [sp])) Hr10 := by rw [List.length_append, List.flatMap_append]; exact hr10
     refine d_ (p_ rfl (D_ (fun _ a b => ⟨aC_ a, b.2.2⟩) (L_ 6 rfl (by kernel_rfl) (a_ (h_ ab_ rfl rfl rfl al_) rfl (d_ (p_ rfl (D_ (fun _ a b => ⟨aC_ a, b.2.2⟩) (L_ 7 rfl (by kernel_rfl) (bQ_ 2 hq10 al_ rfl rfl rfl rfl ?_)))))))))
     refine d_ (p_ rfl (D_ (fun _ a b => ⟨aC_ a, b.2.2⟩) (T_ (by kernel_rfl) (b_ rfl (c_ (a_ (ag_ rfl rfl rfl (aS_ (by omega) (by omega))) rfl (a_ (f_ rfl) rfl (d_ (p_ rfl ?_)))))))))
     exact aU_ ⟨(i + 1, (l ++ [sp]), e1, sv10, Hr10), (by omega), (by rw [List.map_append]; exact cV_ hI (by omega) hs1), he1, (by rw [List.length_append, hll]; rfl), hq10⟩ (by dsimp only; omega) ⟨rfl, rfl, rfl, rfl, rfl, trivial⟩ (N_ (F_ (F_ C_)) (N_ (F_ (F_ C_)) (N_ (F_ C_) aK_))) (fun v _ h => by exact ⟨h.2.1, cH_ h.2.2.2.1 h.1, trivial⟩)
end Go.Proofs.YtaffcjgphlhppaaGreatDoor
