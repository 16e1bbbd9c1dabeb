/-
  Part of the proof of the law NormalChains over this seat: the small logic, the data, the contracts of functions (no condition).
-/
import Derived.Test.YtoafjmalfclpoaaGreatDoorQNormalChains10
set_option linter.unusedVariables false
set_option linter.unusedSimpArgs false
set_option linter.unusedSectionVars false
namespace Go.Proofs.YtoafjmalfclpoaaGreatDoor
open Go Go.Sx Go.Proofs
attribute [local irreducible] Code.wp wpList wpAnyH
open Go.Vs
theorem eB_ {x : Ax} {k : Nat} (hk : k ≤ x.roles.length) (hl : ∀ r ∈ x.roles, r.length ≤ 1000) (h4 : x.roles.length ≤ 4) : (Lib.join (List.take k x.roles) [46]).length ≤ 100000 := by
  have h : ∀ (l : List Str), (∀ r ∈ l, r.length ≤ 1000) → l.length ≤ 4 → (Lib.join l [46]).length ≤ 100000 := by
    intro l hr hn
    cases l with
    | nil => simp [Lib.join_nil]
    | cons a t =>
      rw [Lib.join_cons, List.length_append, Lib.joinTail_length]
      have h1 := hr a (by simp)
      have h2 : ∀ (t : List Str), (∀ r ∈ t, r.length ≤ 1000) → Lib.lens t ≤ t.length * 1000 := by
        intro t
        induction t with
        | nil => intro _; simp [Lib.lens]
        | cons b t ih =>
          intro hb
          have := ih fun r hr => hb r (by simp [hr])
          have := hb b (by simp)
          simp only [Lib.lens, List.map_cons, List.sum_cons, List.length_cons] at *
          omega
      have h3 := h2 t fun r hr' => hr r (by simp [hr'])
      simp only [List.length_cons, List.length_nil] at *
      omega
  exact h (List.take k x.roles) (fun r hr => hl r (List.mem_of_mem_take hr)) (by rw [List.length_take]; omega)
theorem ci_ {x : Ax} {i : Nat} {r : Str} (hr : x.roles[i]? = some r) (hi : (i : Int) = (x.roles.length : Int) - 1) : Ax.rul x i = ⟨Lib.join (List.take i x.roles) [46], r, x.role⟩ := by
  have : i + 1 = x.roles.length := by omega
  unfold Ax.rul
  rw [if_pos this]
  simp [List.getD, hr]
theorem cB_ {x : Ax} {i : Nat} {r : Str} (hr : x.roles[i]? = some r) (hi : ¬ (i : Int) = (x.roles.length : Int) - 1) : Ax.rul x i = ⟨Lib.join (List.take i x.roles) [46], r, Lib.join (List.take (i + 1) x.roles) [46]⟩ := by
  have : ¬ i + 1 = x.roles.length := by omega
  unfold Ax.rul
  rw [if_neg this]
  simp [List.getD, hr]
theorem bN_ {α : Type} [DecidableEq α] {y : α} {l : List α} (h : ¬ y ∈ l) : cP_ y l = l ++ [y] := if_neg h
theorem dF_ {α : Type} [DecidableEq α] {y : α} {l : List α} (h : y ∈ l) : cP_ y l = l := if_pos h
theorem lf_ {l : List Ax} {k : Nat} {x : Ax} {R R' : List Rul} (hx : l[k]? = some x) (h : ∀ y ∈ List.take k l, ∀ i, 1 ≤ i → i < y.roles.length → y.rul i ∈ R) (hR : ∀ z ∈ R, z ∈ R') (hn : ∀ i, 1 ≤ i → i < x.roles.length → x.rul i ∈ R') : ∀ y ∈ List.take (k + 1) l, ∀ i, 1 ≤ i → i < y.roles.length → y.rul i ∈ R' := fun y hy i h1 h2 => by
  rcases ec_ hx hy with hy | rfl
  · exact hR _ (h y hy i h1 h2)
  · exact hn i h1 h2
structure GrmH where
  R : List Rul
  ba : Nat
  b1 : Nat
  b2 : Nat
  H1 : Hp
  H2 : Hp
structure GrmOk (l : List Ax) (y : GrmH) : Prop where
  all : ∀ x ∈ l, ∀ i, 1 ≤ i → i < x.roles.length → x.rul i ∈ y.R
  len : y.R.length ≤ 4 * l.length
  m1 : eg_ str Rul.cells 150 3 (List.map (fun x => (Rul.f x, x)) y.R) y.b1 y.H1
  m2 : eg_ str Rul.cells 150 3 (List.map (fun x => (Rul.s x, x)) y.R) y.b2 y.H2
theorem hB_ (l : List Ax) (ad : Option Addr) (cap : Nat) (hok : ∀ x ∈ l, x.ok) (hC : ∀ x ∈ l, x.check = 0) (hK : ∀ x ∈ l, x.kind = 6) (hll : l.length ≤ 1000) : Tri Tryz.prog 122 #[.slice ad (List.length l) cap] [] [ev_ ad l, bH_] (fun y : {y : GrmH // GrmOk l y} => .agg #[.map (some y.1.ba), .map (some y.1.b1), .map (some y.1.b2), .slice none 0 0]) (fun y => (y.1.ba, .map #[] 0) :: (y.1.H1 ++ y.1.H2)) (fun _ => []) := by
 refine M_ Tryz.func122 rfl rfl Tryz.ntmps122 rfl fun v0 => ?_
 refine f_ (b_ (an_ Tryz.zeroValue140 rfl fun b1 => ?_))
 refine d_ (c_ rfl (f_ (b_ (dh_ rfl fun b2 => ?_))))
 refine dh_ rfl fun b3 => ?_
 refine dh_ rfl fun b4 => ?_
 refine a_ (N_ lu_ rfl rfl) rfl (an_ Tryz.zeroValue140 rfl fun b5 => ?_)
 refine ah_ 0 kD_ rfl rfl rfl rfl rfl rfl (d_ (c_ rfl (f_ (b_ (dh_ rfl fun b6 => ?_)))))
 refine a_ (e_ rfl) rfl (d_ (c_ rfl (f_ (f_ (b_ (a_ (g_ rfl) rfl (a_ (ar_ bm_ rfl) rfl (a_ (g_ rfl) rfl (d_ ?_)))))))))
 refine c_ rfl (T_ ?_)
 refine ch_ (ι := {y : Nat × List Rul × Array MapEntry × Nat × Hp × Hp // y.1 ≤ List.length l ∧ SetE Rul.val y.2.2.1 y.2.1 ∧ eg_ str Rul.cells 150 3 (List.map (fun x => (Rul.f x, x)) y.2.1) b3 y.2.2.2.2.1 ∧ eg_ str Rul.cells 150 3 (List.map (fun x => (Rul.s x, x)) y.2.1) b4 y.2.2.2.2.2 ∧ List.length y.2.1 ≤ 4 * y.1 ∧ (∀ ux ∈ List.take y.1 l, ∀ ix, 1 ≤ ix → ix < ux.roles.length → ux.rul ix ∈ y.2.1)}) (fun y => [(2, zp_ b1 0), (3, zp_ b5 0), (4, .map (some b6)), (14, .slice ad (List.length l) cap), (15, .int .i64 (List.length l : Int)), (16, .int .i64 (y.1.1 : Int))]) (fun y => ((b1, .cells #[.map none, .map none, .map none, .slice none 0 0] 140 (0, 0)) :: ((b5, .cells #[.map (some b2), .map (some b3), .map (some b4), .slice none 0 0] 140 (0, 0)) :: ((b2, .map #[] 0) :: ((b6, .map y.1.2.2.1 y.1.2.2.2.1) :: (y.1.2.2.2.2.1 ++ y.1.2.2.2.2.2)))))) (fun y => [ev_ ad l, bH_]) (fun y => List.length l - y.1.1) ⟨((0 : Nat), ([] : List Rul), #[], 0, [(b3, .map #[] 0)], [(b4, .map #[] 0)]), by simp, SetE.nil, by exact eg_.nil _ _, by exact eg_.nil _ _, by simp, by simp⟩ ⟨rfl, rfl, rfl, rfl, rfl, rfl, trivial⟩ (j_ (i_ (i_ (i_ (i_ (i_ h_))))) (j_ (i_ h_) (j_ (i_ (i_ (i_ h_))) (j_ h_ (j_ (i_ h_) h_))))) (fun _ _ h => h) ?_
 rintro ⟨⟨k, R, es, cs, Q1, Q2⟩, hk, hE, hm1, hm2, hRl, hA⟩
 dsimp only at hk hE hm1 hm2 hRl hA ⊢
 refine f_ (b_ (v_ (aN_ rfl rfl) rfl fun r1 hr1 => ?_))
 refine d_ (c_ rfl (f_ ?_))
 cases r1
 ·
  replace hr1 := of_decide_eq_false hr1
  refine r_ rfl (aU_ rfl (c_ rfl (f_ (b_ (a_ (G_ 1 Tryz.isAgg140 kD_ rfl rfl rfl) rfl (ah_ 0 kD_ rfl rfl rfl rfl rfl rfl (d_ (c_ rfl (B_ ?_)))))))))
  obtain rfl : k = List.length l := by omega
  exact kI_ ⟨⟨R, b2, b3, b4, Q1, Q2⟩, ⟨fun x hx => hA x (by rwa [List.take_of_length_le (Nat.le_refl _)]), hRl, hm1, hm2⟩⟩ (fun a v h1 h2 => en_ (us := [_, _, _, _]) 0 Tryz.results122 Tryz.isAgg140 kD_ rfl rfl rfl a v h1 h2) (j_ (i_ (i_ h_)) (ak_ (i_ (i_ (i_ W_))) (i_ (i_ bh_)))) (fun _ _ _ => trivial)
 ·
  replace hr1 := of_decide_eq_true hr1
  have hlx1 : k < List.length l := by omega
  obtain ⟨x1, hx1⟩ : ∃ e0, l[k]? = some e0 := ⟨_, List.getElem?_eq_getElem hlx1⟩
  have hmx1 : x1 ∈ l := List.mem_of_getElem? hx1
  refine p_ rfl (D_ (c_ rfl (f_ (T_ (f_ (b_ (a_ (am_ bm_ ae_ rfl rfl (fun v _ h => aS_ (n := 16) Ax.cells_len (by decide) (by exact h.1.1) hx1) (by omega) (by first | omega | (simp; done))) rfl (a_ (aH_ (ad := ad) (us := Ax.cells x1) bR_ ae_ rfl (fun v _ h => by exact h.1.1) (Ax.cells_len _) (ao_ Ax.cells_len hx1)) rfl (an_ aT_ rfl fun b7 => ?_)))))))))
  refine ah_ 0 ae_ rfl rfl rfl rfl rfl rfl (d_ (c_ rfl (f_ (b_ (a_ (m_ l_ rfl rfl rfl L_) rfl (a_ (t_ 0 O_ rfl rfl rfl) rfl (d_ (c_ rfl (T_ ?_)))))))))
  refine f_ (b_ (v_ (ai_ rfl rfl) rfl fun r2 hr2 => ?_))
  refine a_ (e_ rfl) rfl (d_ (c_ rfl ?_))
  cases r2
  ·
   replace hr2 := ne_of_beq_false hr2
   refine r_ rfl (f_ (b_ (v_ (ai_ rfl rfl) rfl fun r3 hr3 => ?_)))
   refine a_ (e_ rfl) rfl (d_ (c_ rfl ?_))
   cases r3
   ·
    replace hr3 := ne_of_beq_false hr3
    refine r_ rfl (f_ (b_ (v_ (ai_ rfl rfl) rfl fun r4 hr4 => ?_)))
    refine a_ (e_ rfl) rfl (d_ (c_ rfl ?_))
    cases r4
    ·
     replace hr4 := ne_of_beq_false hr4
     exfalso; have := hK x1 hmx1; omega
    ·
     replace hr4 := eq_of_beq hr4
     refine p_ rfl (f_ (b_ (a_ (e_ rfl) rfl (d_ (c_ rfl (T_ ?_))))))
     have hch := Ax.Good.chain (Ax.good_of (hC x1 hmx1)) (hK x1 hmx1)
     have hpl := Ax.Good.roles (Ax.good_of (hC x1 hmx1))
     have hrl : ∀ r ∈ x1.roles, r.length ≤ 1000 := fun r hr => by have := gz_ (hpl r hr); omega
     have hcp := (hok x1 hmx1).cap
     have hcl := (hok x1 hmx1).len
     refine ch_ (ι := {y : Nat × List Rul × Array MapEntry × Nat × Hp × Hp // 1 ≤ y.1 ∧ y.1 ≤ List.length (Ax.roles x1) ∧ SetE Rul.val y.2.2.1 y.2.1 ∧ eg_ str Rul.cells 150 3 (List.map (fun x => (Rul.f x, x)) y.2.1) b3 y.2.2.2.2.1 ∧ eg_ str Rul.cells 150 3 (List.map (fun x => (Rul.s x, x)) y.2.1) b4 y.2.2.2.2.2 ∧ List.length y.2.1 ≤ 4 * k + y.1 ∧ (∀ z ∈ R, z ∈ y.2.1) ∧ (∀ j, 1 ≤ j → j < y.1 → x1.rul j ∈ y.2.1)}) (fun y => [(2, zp_ b1 0), (3, zp_ b5 0), (4, .map (some b6)), (6, zp_ b7 0), (14, .slice ad (List.length l) cap), (15, .int .i64 (List.length l : Int)), (16, .int .i64 (k : Int)), (7, .int .i64 (y.1.1 : Int))]) (fun y => ((b1, .cells #[.map none, .map none, .map none, .slice none 0 0] 140 (0, 0)) :: ((b5, .cells #[.map (some b2), .map (some b3), .map (some b4), .slice none 0 0] 140 (0, 0)) :: ((b2, .map #[] 0) :: ((b6, .map y.1.2.2.1 y.1.2.2.2.1) :: (y.1.2.2.2.2.1 ++ (y.1.2.2.2.2.2 ++ ((b7, .cells #[.int .i64 (Ax.kind x1), .bool (Ax.opn x1), .int .i64 (Con.kind (Ax.left x1)), str (Con.name (Ax.left x1)), .int .i64 (Con.lo (Ax.left x1)), .int .i64 (Con.hi (Ax.left x1)), .slice (Con.ad (Ax.left x1)) (List.length (Con.parts (Ax.left x1))) (Con.cap (Ax.left x1)), .int .i64 (Con.kind (Ax.right x1)), str (Con.name (Ax.right x1)), .int .i64 (Con.lo (Ax.right x1)), .int .i64 (Con.hi (Ax.right x1)), .slice (Con.ad (Ax.right x1)) (List.length (Con.parts (Ax.right x1))) (Con.cap (Ax.right x1)), .slice (Ax.ad x1) (List.length (Ax.roles x1)) (Ax.cap x1), str (Ax.role x1), str (Ax.a x1), str (Ax.b x1)] 41 (0, 0)) :: [])))))))) (fun y => [ev_ ad l, bH_]) (fun y => List.length (Ax.roles x1) - y.1.1) ⟨((1 : Nat), R, es, cs, Q1, Q2), Nat.le_refl _, by dsimp only; omega, hE, hm1, hm2, by dsimp only; omega, fun z hz => hz, fun j g1 g2 => absurd g1 (by omega)⟩ ⟨rfl, rfl, rfl, rfl, rfl, rfl, rfl, rfl, trivial⟩ (j_ (i_ h_) (j_ (i_ h_) (j_ (i_ h_) (j_ (i_ h_) (ak_ (i_ W_) (ak_ bh_ h_)))))) (fun _ _ h => h) ?_
     rintro ⟨⟨i, R2, es2, cs2, Q12, Q22⟩, h1i, hii, hEx, hm1x, hm2x, hRx, hG0, hG1⟩
     dsimp only at h1i hii hEx hm1x hm2x hRx hG0 hG1 ⊢
     refine f_ (Y_ (aA_ h_ (aA_ h_ (aA_ h_ (aA_ h_ (cM_ (w_ bT_)))))) (f_ (b_ (a_ (g_ rfl) rfl (a_ (m_ l_ rfl rfl rfl bp_) rfl (a_ (t_ 4 bS_ rfl rfl rfl) rfl (a_ (ar_ J_ rfl) rfl (v_ (aN_ rfl rfl) rfl fun r5 hr5 => ?_))))))))
     refine d_ (c_ rfl ?_)
     cases r5
     ·
      replace hr5 := of_decide_eq_false hr5
      refine r_ rfl (aU_ rfl (c_ rfl (b_ (a_ (R_ rfl rfl rfl (aq_ (by omega) (by omega))) rfl (a_ (g_ rfl) rfl (d_ (o_ rfl ?_)))))))
      exact av_ ⟨(k + 1, R2, es2, cs2, Q12, Q22), hlx1, hEx, hm1x, hm2x, by dsimp only; omega, lf_ hx1 hA hG0 (fun j h1 h2 => hG1 j h1 (by omega))⟩ (by dsimp only; omega) ⟨rfl, rfl, rfl, rfl, rfl, rfl, trivial⟩ (j_ h_ (j_ h_ (j_ h_ (j_ h_ (ak_ (i_ W_) bh_))))) (fun _ _ h => h)
     ·
      replace hr5 := of_decide_eq_true hr5
      have hlro : i < List.length (Ax.roles x1) := by omega
      obtain ⟨ro, hro⟩ : ∃ e0, (Ax.roles x1)[i]? = some e0 := ⟨_, List.getElem?_eq_getElem hlro⟩
      have hmro : ro ∈ (Ax.roles x1) := List.mem_of_getElem? hro
      refine p_ rfl (D_ (c_ rfl (f_ (T_ (f_ ?_)))))
      refine hu_ (ι := {y : Nat // True}) (fun y => [(2, zp_ b1 0), (3, zp_ b5 0), (4, .map (some b6)), (6, zp_ b7 0), (14, .slice ad (List.length l) cap), (15, .int .i64 (List.length l : Int)), (16, .int .i64 (k : Int)), (7, .int .i64 (i : Int)), (8, zp_ y.1 0)]) (fun y => ((b1, .cells #[.map none, .map none, .map none, .slice none 0 0] 140 (0, 0)) :: ((b2, .map #[] 0) :: ((b5, .cells #[.map (some b2), .map (some b3), .map (some b4), .slice none 0 0] 140 (0, 0)) :: ((b6, .map es2 cs2) :: ((b7, .cells #[.int .i64 (Ax.kind x1), .bool (Ax.opn x1), .int .i64 (Con.kind (Ax.left x1)), str (Con.name (Ax.left x1)), .int .i64 (Con.lo (Ax.left x1)), .int .i64 (Con.hi (Ax.left x1)), .slice (Con.ad (Ax.left x1)) (List.length (Con.parts (Ax.left x1))) (Con.cap (Ax.left x1)), .int .i64 (Con.kind (Ax.right x1)), str (Con.name (Ax.right x1)), .int .i64 (Con.lo (Ax.right x1)), .int .i64 (Con.hi (Ax.right x1)), .slice (Con.ad (Ax.right x1)) (List.length (Con.parts (Ax.right x1))) (Con.cap (Ax.right x1)), .slice (Ax.ad x1) (List.length (Ax.roles x1)) (Ax.cap x1), str (Ax.role x1), str (Ax.a x1), str (Ax.b x1)] 41 (0, 0)) :: ((y.1, .cells #[str (Lib.join (List.take i (Ax.roles x1)) [46]), str ro, str (Lib.join (List.take (i + 1) (Ax.roles x1)) [46])] 150 (0, 0)) :: (Q12 ++ Q22)))))))) (fun y => [ev_ ad l, bH_]) ?_ ?_
      ·
       refine br_ (by kernel_rfl) ?_
       refine ab_ 5 [0, 1, 2, 3, 5, 6, 7, 8, 9, 10, 11, 12, 13, 14] (by kernel_rfl) (fun _ a b => ⟨a, b⟩) (s_ rfl (m_ l_ rfl rfl rfl bp_) rfl (s_ rfl (t_ 4 bS_ rfl rfl rfl) rfl (s_ rfl (g_ rfl) rfl (s_ rfl (bB_ (dc_ (i := 0) (j := i) (kl := .i64) (kh := .i64) J_ z_ rfl rfl rfl (by omega) (by have := hcl; omega)) (show _ = Value.slice (sad (Ax.ad x1) (Ax.cap x1) 0 1) (List.length (List.take i (Ax.roles x1))) ((Ax.cap x1) - 0) by rw [List.length_take, Nat.min_eq_left (by omega)]; rfl)) rfl (s_ rfl (m_ l_ rfl rfl rfl bp_) rfl (s_ rfl (t_ 4 bS_ rfl rfl rfl) rfl (s_ rfl (g_ rfl) rfl (s_ rfl (am_ J_ z_ rfl rfl (fun v _ h => aS_ (n := 1) aM_ (by decide) (by exact (h.1.2 x1 hmx1).2.2) hro) (by omega) (by first | omega | (simp; done))) rfl (s_ rfl (bw_ (ad := (Ax.ad x1)) E_ rfl (fun v _ h => by exact (h.1.2 x1 hmx1).2.2) (ao_ aM_ hro 0 _ rfl)) rfl ?_)))))))))
       refine s_ rfl (m_ l_ rfl rfl rfl bp_) rfl (s_ rfl (t_ 4 bS_ rfl rfl rfl) rfl (s_ rfl (g_ rfl) rfl (s_ rfl (R_ rfl rfl rfl (aq_ (by omega) (by omega))) rfl (s_ rfl (bB_ (dc_ (i := 0) (j := (i + 1)) (kl := .i64) (kh := .i64) J_ z_ rfl rfl rfl (by omega) (by have := hcl; omega)) (show _ = Value.slice (sad (Ax.ad x1) (Ax.cap x1) 0 1) (List.length (List.take (i + 1) (Ax.roles x1))) ((Ax.cap x1) - 0) by rw [List.length_take, Nat.min_eq_left (by omega)]; rfl)) rfl (aa_ ?_)))))
       refine cg_ 4 17 rfl rfl (by kernel_rfl) ?_ ?_
       ·
        refine A_ (fH_ (List.take i (Ax.roles x1)) [46] (sad (Ax.ad x1) (Ax.cap x1) 0 1) ((Ax.cap x1) - 0) (by intro q; have := congrArg List.length q; rw [List.length_take] at this; simp only [List.length_nil] at this; omega) (by rw [List.length_take]; omega) (by rw [List.length_take]; omega) (Nat.le_trans (eB_ (by omega) hrl hch.2) (by decide))) rfl S_ (fun v _ h => by exact ⟨(bq_.slice aM_ (h.1.2 x1 hmx1).2.2 hcl 0 i), h.2.1, trivial⟩) rfl fun _ => ?_
        refine d_ (o_ rfl (u_ (fun _ a b => ⟨a, b⟩) ?_))
        refine cg_ 15 17 rfl rfl (by kernel_rfl) ?_ ?_
        ·
         refine A_ (fH_ (List.take (i + 1) (Ax.roles x1)) [46] (sad (Ax.ad x1) (Ax.cap x1) 0 1) ((Ax.cap x1) - 0) (by intro q; have := congrArg List.length q; rw [List.length_take] at this; simp only [List.length_nil] at this; omega) (by rw [List.length_take]; omega) (by rw [List.length_take]; omega) (Nat.le_trans (eB_ (by omega) hrl hch.2) (by decide))) rfl S_ (fun v _ h => by exact ⟨(bq_.slice aM_ (h.1.2 x1 hmx1).2.2 hcl 0 (i + 1)), h.2.1, trivial⟩) rfl fun _ => ?_
         refine d_ (o_ rfl (u_ (fun _ a b => ⟨a, b⟩) (ab_ 2 [16] (by kernel_rfl) (fun _ a b => ⟨a, b⟩) (s_ rfl (N_ hs_ rfl rfl) rfl (aa_ (H_ 17 rfl (by kernel_rfl) (an_ aP_ rfl fun b8 => ?_)))))))
         refine d_ (o_ rfl (u_ (fun _ a b => ⟨a.tail, b⟩) (H_ 18 rfl (by kernel_rfl) (ah_ 0 as_ rfl rfl rfl rfl rfl rfl (d_ (o_ rfl (u_ (fun _ a b => ⟨a.tail, b⟩) (ad_ (by kernel_rfl) (aL_ rfl ?_)))))))))
         exact bG_ ⟨b8, trivial⟩ ⟨rfl, rfl, rfl, rfl, rfl, rfl, rfl, rfl, rfl, trivial⟩ (j_ (i_ h_) (j_ (i_ (i_ h_)) (j_ (i_ h_) (j_ (i_ h_) (j_ (i_ h_) (j_ h_ (ak_ W_ aQ_))))))) (fun v _ h => by exact ⟨h.1, h.2.1, trivial⟩)
        ·
         refine an_ aP_ rfl fun b9 => ?_
         refine d_ (o_ rfl (u_ (fun _ a b => ⟨a.tail, b⟩) (H_ 15 rfl (by kernel_rfl) (A_ (fH_ (List.take (i + 1) (Ax.roles x1)) [46] (sad (Ax.ad x1) (Ax.cap x1) 0 1) ((Ax.cap x1) - 0) (by intro q; have := congrArg List.length q; rw [List.length_take] at this; simp only [List.length_nil] at this; omega) (by rw [List.length_take]; omega) (by rw [List.length_take]; omega) (Nat.le_trans (eB_ (by omega) hrl hch.2) (by decide))) rfl S_ (fun v _ h => by exact ⟨(bq_.slice aM_ (h.1.2 x1 hmx1).2.2 hcl 0 (i + 1)), h.2.1, trivial⟩) rfl fun _ => ?_))))
         refine d_ (o_ rfl (u_ (fun _ a b => ⟨a.tail, b⟩) (ab_ 1 [16] (by kernel_rfl) (fun _ a b => ⟨a.tail, b⟩) (s_ rfl (N_ hs_ rfl rfl) rfl (aa_ (H_ 18 rfl (by kernel_rfl) (ah_ 0 as_ rfl rfl rfl rfl rfl rfl (d_ (o_ rfl ?_)))))))))
         refine u_ (fun _ a b => ⟨a.tail, b⟩) (ad_ (by kernel_rfl) (aL_ rfl ?_))
         exact bG_ ⟨b9, trivial⟩ ⟨rfl, rfl, rfl, rfl, rfl, rfl, rfl, rfl, rfl, trivial⟩ (j_ (i_ h_) (j_ (i_ (i_ h_)) (j_ (i_ h_) (j_ (i_ h_) (j_ (i_ h_) (j_ h_ (ak_ W_ aQ_))))))) (fun v _ h => by exact ⟨h.1, h.2.1, trivial⟩)
       ·
        refine an_ aP_ rfl fun b10 => ?_
        refine d_ (o_ rfl (u_ (fun _ a b => ⟨a.tail, b⟩) (H_ 4 rfl (by kernel_rfl) (A_ (fH_ (List.take i (Ax.roles x1)) [46] (sad (Ax.ad x1) (Ax.cap x1) 0 1) ((Ax.cap x1) - 0) (by intro q; have := congrArg List.length q; rw [List.length_take] at this; simp only [List.length_nil] at this; omega) (by rw [List.length_take]; omega) (by rw [List.length_take]; omega) (Nat.le_trans (eB_ (by omega) hrl hch.2) (by decide))) rfl S_ (fun v _ h => by exact ⟨(bq_.slice aM_ (h.1.2 x1 hmx1).2.2 hcl 0 i), h.2.1, trivial⟩) rfl fun _ => ?_))))
        refine d_ (o_ rfl (u_ (fun _ a b => ⟨a.tail, b⟩) (H_ 15 rfl (by kernel_rfl) (A_ (fH_ (List.take (i + 1) (Ax.roles x1)) [46] (sad (Ax.ad x1) (Ax.cap x1) 0 1) ((Ax.cap x1) - 0) (by intro q; have := congrArg List.length q; rw [List.length_take] at this; simp only [List.length_nil] at this; omega) (by rw [List.length_take]; omega) (by rw [List.length_take]; omega) (Nat.le_trans (eB_ (by omega) hrl hch.2) (by decide))) rfl S_ (fun v _ h => by exact ⟨(bq_.slice aM_ (h.1.2 x1 hmx1).2.2 hcl 0 (i + 1)), h.2.1, trivial⟩) rfl fun _ => ?_))))
        refine d_ (o_ rfl (u_ (fun _ a b => ⟨a.tail, b⟩) (ab_ 1 [16] (by kernel_rfl) (fun _ a b => ⟨a.tail, b⟩) (s_ rfl (N_ hs_ rfl rfl) rfl (aa_ (H_ 18 rfl (by kernel_rfl) (ah_ 0 as_ rfl rfl rfl rfl rfl rfl (d_ (o_ rfl ?_)))))))))
        refine u_ (fun _ a b => ⟨a.tail, b⟩) (ad_ (by kernel_rfl) (aL_ rfl ?_))
        exact bG_ ⟨b10, trivial⟩ ⟨rfl, rfl, rfl, rfl, rfl, rfl, rfl, rfl, rfl, trivial⟩ (j_ (i_ h_) (j_ (i_ (i_ h_)) (j_ (i_ h_) (j_ (i_ h_) (j_ (i_ h_) (j_ h_ (ak_ W_ aQ_))))))) (fun v _ h => by exact ⟨h.1, h.2.1, trivial⟩)
      ·
       rintro ⟨z15_17, _⟩
       dsimp only
       refine bs_ [(2, zp_ b1 0), (3, zp_ b5 0), (4, .map (some b6)), (6, zp_ b7 0), (14, .slice ad (List.length l) cap), (15, .int .i64 (List.length l : Int)), (16, .int .i64 (k : Int)), (7, .int .i64 (i : Int)), (8, zp_ z15_17 0)] ⟨rfl, rfl, rfl, rfl, rfl, rfl, rfl, rfl, rfl, trivial⟩ ?_
       refine c_ rfl (f_ (f_ (b_ (a_ (g_ rfl) rfl (a_ (m_ l_ rfl rfl rfl bp_) rfl (a_ (t_ 4 bS_ rfl rfl rfl) rfl (a_ (ar_ J_ rfl) rfl (a_ (R_ rfl rfl rfl (aq_ (by omega) (by omega))) rfl (v_ (ai_ rfl rfl) rfl fun r6 hr6 => ?_)))))))))
       refine d_ (c_ rfl ?_)
       cases r6
       ·
        replace hr6 := ne_of_beq_false hr6
        refine r_ rfl (D_ (c_ rfl (f_ (b_ (a_ (g_ rfl) rfl (a_ (G_ 5 cx_ as_ rfl rfl rfl) rfl (v_ (fU_ (k := (Rul.mk (Lib.join (List.take i (Ax.roles x1)) [46]) ro (Lib.join (List.take (i + 1) (Ax.roles x1)) [46]))) hE_ jP_ Tryz.zeroValue4 rfl rfl hEx (fun v h _ => (h.own _ (List.mem_of_getElem? (i := 3) rfl)).1)) rfl fun r7 hr7 => ?_)))))))
        refine a_ (bf_ rfl) rfl (d_ (c_ rfl ?_))
        cases r7
        ·
         replace hr7 := of_decide_eq_false hr7
         refine p_ rfl (f_ (b_ (a_ (g_ rfl) rfl (a_ (G_ 5 cx_ as_ rfl rfl rfl) rfl (iq_ (k := (Rul.mk (Lib.join (List.take i (Ax.roles x1)) [46]) ro (Lib.join (List.take (i + 1) (Ax.roles x1)) [46]))) 3 hE_ (.inr rfl) jP_ rfl rfl rfl rfl hEx fun ej1 cj1 hj1 => ?_)))))
         refine d_ (c_ rfl ?_)
         have hbl := eb_ (List.map (fun x => (Rul.f x, x)) R2) (Lib.join (List.take i (Ax.roles x1)) [46])
         rw [List.length_map] at hbl
         have hbb1 := hbl
         refine fb_ cq_ (Lib.join (List.take i (Ax.roles x1)) [46]) hm1x (i_ (i_ (i_ (i_ (i_ (i_ W_)))))) fun es1 ce1 ve1 Hk1 Hx1 hw1 ho1 => ?_
         refine Y_ (aA_ h_ (aA_ (w_ (w_ h_)) (aA_ (w_ (w_ h_)) (aA_ (w_ (w_ h_)) (aA_ (w_ (w_ h_)) (aA_ (w_ (w_ h_)) (cM_ (w_ (w_ h_))))))))) (f_ ?_)
         refine aW_ ((b1, .cells #[.map none, .map none, .map none, .slice none 0 0] 140 (0, 0)) :: ((b2, .map #[] 0) :: ((b5, .cells #[.map (some b2), .map (some b3), .map (some b4), .slice none 0 0] 140 (0, 0)) :: ((b6, .map ej1 cj1) :: ((b7, .cells #[.int .i64 (Ax.kind x1), .bool (Ax.opn x1), .int .i64 (Con.kind (Ax.left x1)), str (Con.name (Ax.left x1)), .int .i64 (Con.lo (Ax.left x1)), .int .i64 (Con.hi (Ax.left x1)), .slice (Con.ad (Ax.left x1)) (List.length (Con.parts (Ax.left x1))) (Con.cap (Ax.left x1)), .int .i64 (Con.kind (Ax.right x1)), str (Con.name (Ax.right x1)), .int .i64 (Con.lo (Ax.right x1)), .int .i64 (Con.hi (Ax.right x1)), .slice (Con.ad (Ax.right x1)) (List.length (Con.parts (Ax.right x1))) (Con.cap (Ax.right x1)), .slice (Ax.ad x1) (List.length (Ax.roles x1)) (Ax.cap x1), str (Ax.role x1), str (Ax.a x1), str (Ax.b x1)] 41 (0, 0)) :: ((z15_17, .cells #[str (Lib.join (List.take i (Ax.roles x1)) [46]), str ro, str (Lib.join (List.take (i + 1) (Ax.roles x1)) [46])] 150 (0, 0)) :: [])))))) (by kernel_rfl) ?_
         refine ab_ 4 [0, 1, 2, 3, 4, 5, 6, 7, 9] (by kernel_rfl) (fun _ a b => ⟨Vw.sat.sub (a.perm (j_ (i_ h_) (j_ (i_ h_) (j_ (i_ h_) (j_ (i_ h_) (j_ (i_ h_) (i_ h_))))))), b⟩) (s_ rfl (m_ aC_ rfl rfl rfl bD_) rfl (s_ rfl (t_ 2 bX_ rfl rfl rfl) rfl (s_ rfl (m_ ax_ rfl rfl rfl z_) rfl (s_ rfl (t_ 5 E_ rfl rfl rfl) rfl (s_ rfl (m_ aC_ rfl rfl rfl bD_) rfl (s_ rfl (t_ 2 bX_ rfl rfl rfl) rfl (s_ rfl (m_ ax_ rfl rfl rfl z_) rfl (s_ rfl (t_ 5 E_ rfl rfl rfl) rfl (s_ rfl (G_ 5 cx_ as_ rfl rfl rfl) rfl ?_)))))))))
         refine aa_ ?_
         refine cg_ 8 10 rfl rfl (by kernel_rfl) ?_ ?_
         ·
          refine a_ (cr_ (k := (Lib.join (List.take i (Ax.roles x1)) [46])) cq_ ho1 ac_ bl_ rfl rfl 0 rfl) rfl (d_ (o_ rfl (u_ (fun _ a b => ⟨Vw.sat.sub (a.perm (j_ (i_ h_) (j_ (i_ h_) (j_ (i_ h_) (j_ (i_ h_) (j_ (i_ h_) (i_ h_))))))), b⟩) (H_ 10 rfl (by kernel_rfl) (X_ aG_ as_ aP_ rfl rfl rfl rfl rfl rfl fun b11 => ?_)))))
          refine at_ (List.flatMap Rul.cells [(Rul.mk (Lib.join (List.take i (Ax.roles x1)) [46]) ro (Lib.join (List.take (i + 1) (Ax.roles x1)) [46]))]) h_ rfl ?_
          refine d_ (o_ rfl (u_ (fun _ a b => ⟨Vw.sat.sub (a.perm (j_ (i_ h_) (j_ (i_ h_) (j_ (i_ h_) (j_ (i_ h_) (j_ (i_ h_) (i_ h_))))))), b.2⟩) (H_ 11 rfl (by kernel_rfl) (bu_ (news := List.flatMap Rul.cells [(Rul.mk (Lib.join (List.take i (Ax.roles x1)) [46]) ro (Lib.join (List.take (i + 1) (Ax.roles x1)) [46]))]) db_ hw1 rfl rfl (fun q => by cases q) (by simp) (i_ (i_ (i_ (i_ (i_ (i_ (i_ W_))))))) (by rw [cC_ Rul.cells 3 Rul.cells_len]; rfl) (fun v _ h => by exact h.1) (fun u hu => ck_ Rul.cells_one hu) (by simp only [maxLen]; omega) (by omega) rfl fun sv1 Hr1 hr1 => ?_))))
          have hq1 : bk_ 150 3 sv1 (List.length ((lat (List.map (fun x => (Rul.f x, x)) R2) (Lib.join (List.take i (Ax.roles x1)) [46])) ++ [(Rul.mk (Lib.join (List.take i (Ax.roles x1)) [46]) ro (Lib.join (List.take (i + 1) (Ax.roles x1)) [46]))])) (List.flatMap Rul.cells ((lat (List.map (fun x => (Rul.f x, x)) R2) (Lib.join (List.take i (Ax.roles x1)) [46])) ++ [(Rul.mk (Lib.join (List.take i (Ax.roles x1)) [46]) ro (Lib.join (List.take (i + 1) (Ax.roles x1)) [46]))])) Hr1 := by rw [List.length_append, List.flatMap_append]; exact hr1
          refine d_ (o_ rfl (u_ (fun _ a b => ⟨Vw.sat.sub (a.perm (j_ (w_ (i_ h_)) (j_ (w_ (i_ h_)) (j_ (w_ (i_ h_)) (j_ (w_ (i_ h_)) (j_ (w_ (i_ h_)) (w_ (i_ h_)))))))), b.2⟩) (H_ 12 rfl (by kernel_rfl) (ca_ (k := (Lib.join (List.take i (Ax.roles x1)) [46])) (dd := (Rul.mk (Lib.join (List.take i (Ax.roles x1)) [46]) ro (Lib.join (List.take (i + 1) (Ax.roles x1)) [46]))) cq_ ho1 (by rw [cE_]; exact hq1) (.inr rfl) ac_ rfl rfl rfl (cD_ (j_ (w_ h_) (ak_ W_ (i_ (i_ (i_ (i_ (i_ (i_ W_))))))))) fun H2 hM2 => ?_))))
          refine d_ (o_ rfl (u_ (fun _ a b => ⟨Vw.sat.sub (a.perm (j_ (w_ h_) (j_ (w_ h_) (j_ (w_ h_) (j_ (w_ h_) (j_ (w_ h_) (w_ h_))))))), b.2⟩) (ad_ (by kernel_rfl) (c_ rfl ?_))))
          have hbl := eb_ (List.map (fun x => (Rul.s x, x)) R2) ro
          rw [List.length_map] at hbl
          have hbb3 := hbl
          refine fb_ cq_ ro hm2x (w_ (i_ (i_ (i_ (i_ (i_ bh_)))))) fun es3 ce3 ve3 Hk3 Hx3 hw3 ho3 => ?_
          refine Y_ (aA_ h_ (aA_ (w_ (w_ (w_ h_))) (aA_ (w_ (w_ (w_ h_))) (aA_ (w_ (w_ (w_ h_))) (aA_ (w_ (w_ (w_ h_))) (aA_ (w_ (w_ (w_ h_))) (cM_ (w_ (w_ bT_))))))))) ?_
          refine aW_ ((b1, .cells #[.map none, .map none, .map none, .slice none 0 0] 140 (0, 0)) :: ((b2, .map #[] 0) :: ((b5, .cells #[.map (some b2), .map (some b3), .map (some b4), .slice none 0 0] 140 (0, 0)) :: ((b6, .map ej1 cj1) :: ((b7, .cells #[.int .i64 (Ax.kind x1), .bool (Ax.opn x1), .int .i64 (Con.kind (Ax.left x1)), str (Con.name (Ax.left x1)), .int .i64 (Con.lo (Ax.left x1)), .int .i64 (Con.hi (Ax.left x1)), .slice (Con.ad (Ax.left x1)) (List.length (Con.parts (Ax.left x1))) (Con.cap (Ax.left x1)), .int .i64 (Con.kind (Ax.right x1)), str (Con.name (Ax.right x1)), .int .i64 (Con.lo (Ax.right x1)), .int .i64 (Con.hi (Ax.right x1)), .slice (Con.ad (Ax.right x1)) (List.length (Con.parts (Ax.right x1))) (Con.cap (Ax.right x1)), .slice (Ax.ad x1) (List.length (Ax.roles x1)) (Ax.cap x1), str (Ax.role x1), str (Ax.a x1), str (Ax.b x1)] 41 (0, 0)) :: ((z15_17, .cells #[str (Lib.join (List.take i (Ax.roles x1)) [46]), str ro, str (Lib.join (List.take (i + 1) (Ax.roles x1)) [46])] 150 (0, 0)) :: [])))))) (by kernel_rfl) ?_
          refine ab_ 4 [0, 1, 2, 3, 4, 5, 6, 7, 9] (by kernel_rfl) (fun _ a b => ⟨Vw.sat.sub (a.perm (j_ (i_ h_) (j_ (i_ h_) (j_ (i_ h_) (j_ (i_ h_) (j_ (i_ h_) (i_ h_))))))), b⟩) (s_ rfl (m_ aC_ rfl rfl rfl bD_) rfl (s_ rfl (t_ 2 bX_ rfl rfl rfl) rfl (s_ rfl (m_ ax_ rfl rfl rfl z_) rfl (s_ rfl (t_ 5 E_ rfl rfl rfl) rfl (s_ rfl (m_ aC_ rfl rfl rfl bD_) rfl (s_ rfl (t_ 2 bX_ rfl rfl rfl) rfl (s_ rfl (m_ ax_ rfl rfl rfl z_) rfl (s_ rfl (t_ 5 E_ rfl rfl rfl) rfl (s_ rfl (G_ 5 cx_ as_ rfl rfl rfl) rfl ?_)))))))))
          refine aa_ ?_
          refine cg_ 8 10 rfl rfl (by kernel_rfl) ?_ ?_
          ·
           refine a_ (cr_ (k := ro) cq_ ho3 ac_ bl_ rfl rfl 0 rfl) rfl (d_ (o_ rfl (u_ (fun _ a b => ⟨Vw.sat.sub (a.perm (j_ (i_ h_) (j_ (i_ h_) (j_ (i_ h_) (j_ (i_ h_) (j_ (i_ h_) (i_ h_))))))), b⟩) (H_ 10 rfl (by kernel_rfl) (X_ aG_ as_ aP_ rfl rfl rfl rfl rfl rfl fun b12 => ?_)))))
           refine at_ (List.flatMap Rul.cells [(Rul.mk (Lib.join (List.take i (Ax.roles x1)) [46]) ro (Lib.join (List.take (i + 1) (Ax.roles x1)) [46]))]) h_ rfl ?_
           refine d_ (o_ rfl (u_ (fun _ a b => ⟨Vw.sat.sub (a.perm (j_ (i_ h_) (j_ (i_ h_) (j_ (i_ h_) (j_ (i_ h_) (j_ (i_ h_) (i_ h_))))))), b.2⟩) (H_ 11 rfl (by kernel_rfl) (bu_ (news := List.flatMap Rul.cells [(Rul.mk (Lib.join (List.take i (Ax.roles x1)) [46]) ro (Lib.join (List.take (i + 1) (Ax.roles x1)) [46]))]) db_ hw3 rfl rfl (fun q => by cases q) (by simp) (i_ (i_ (i_ (i_ (i_ (i_ (i_ W_))))))) (by rw [cC_ Rul.cells 3 Rul.cells_len]; rfl) (fun v _ h => by exact h.1) (fun u hu => ck_ Rul.cells_one hu) (by simp only [maxLen]; omega) (by omega) rfl fun sv2 Hr2 hr2 => ?_))))
           have hq2 : bk_ 150 3 sv2 (List.length ((lat (List.map (fun x => (Rul.s x, x)) R2) ro) ++ [(Rul.mk (Lib.join (List.take i (Ax.roles x1)) [46]) ro (Lib.join (List.take (i + 1) (Ax.roles x1)) [46]))])) (List.flatMap Rul.cells ((lat (List.map (fun x => (Rul.s x, x)) R2) ro) ++ [(Rul.mk (Lib.join (List.take i (Ax.roles x1)) [46]) ro (Lib.join (List.take (i + 1) (Ax.roles x1)) [46]))])) Hr2 := by rw [List.length_append, List.flatMap_append]; exact hr2
           refine d_ (o_ rfl (u_ (fun _ a b => ⟨Vw.sat.sub (a.perm (j_ (w_ (i_ h_)) (j_ (w_ (i_ h_)) (j_ (w_ (i_ h_)) (j_ (w_ (i_ h_)) (j_ (w_ (i_ h_)) (w_ (i_ h_)))))))), b.2⟩) (H_ 12 rfl (by kernel_rfl) (ca_ (k := ro) (dd := (Rul.mk (Lib.join (List.take i (Ax.roles x1)) [46]) ro (Lib.join (List.take (i + 1) (Ax.roles x1)) [46]))) cq_ ho3 (by rw [cE_]; exact hq2) (.inr rfl) ac_ rfl rfl rfl (cD_ (j_ (w_ h_) (ak_ W_ (i_ (i_ (i_ (i_ (i_ (i_ W_))))))))) fun H4 hM4 => ?_))))
           refine d_ (o_ rfl (u_ (fun _ a b => ⟨Vw.sat.sub (a.perm (j_ (w_ h_) (j_ (w_ h_) (j_ (w_ h_) (j_ (w_ h_) (j_ (w_ h_) (w_ h_))))))), b.2⟩) (ad_ (by kernel_rfl) (c_ rfl (Y_ (aA_ (w_ h_) (aA_ (w_ h_) (aA_ (w_ h_) (aA_ (w_ h_) (aA_ (w_ h_) (cM_ (w_ h_))))))) (b_ (a_ (g_ rfl) rfl (a_ (R_ rfl rfl rfl (aq_ (by omega) (by omega))) rfl (a_ (e_ rfl) rfl ?_)))))))))
           refine d_ (o_ rfl ?_)
           exact av_ ⟨(i + 1, cP_ (Ax.rul x1 i) R2, ej1, cj1, H2, H4), by omega, by omega, by rw [cB_ hro (by omega), bN_ (by assumption)]; simpa only [List.map_append, List.map_cons, List.map_nil, if_neg (by assumption)] using hj1, by rw [cB_ hro (by omega), bN_ (by assumption)]; simpa only [List.map_append, List.map_cons, List.map_nil, if_neg (by assumption)] using hM2, by rw [cB_ hro (by omega), bN_ (by assumption)]; simpa only [List.map_append, List.map_cons, List.map_nil, if_neg (by assumption)] using hM4, by have := cO_ (y := Ax.rul x1 i) (l := R2); dsimp only; omega, fun z hz => aB_.2 (.inl (hG0 z hz)), fun j g1 g2 => by rcases Nat.lt_or_ge j i with g | g; exact aB_.2 (.inl (hG1 j g1 g)); obtain rfl : j = i := (by omega); exact aB_.2 (.inr rfl)⟩ (by dsimp only; omega) ⟨rfl, rfl, rfl, rfl, rfl, rfl, rfl, rfl, trivial⟩ (j_ h_ (j_ (i_ h_) (j_ h_ (j_ h_ (ak_ (i_ (i_ bT_)) (ak_ (i_ bh_) h_)))))) (fun _ _ h => h.2.2)
          ·
           refine X_ aG_ as_ aP_ rfl rfl rfl rfl rfl rfl fun b13 => ?_
           refine at_ (List.flatMap Rul.cells [(Rul.mk (Lib.join (List.take i (Ax.roles x1)) [46]) ro (Lib.join (List.take (i + 1) (Ax.roles x1)) [46]))]) h_ rfl ?_
           refine d_ (o_ rfl (u_ (fun _ a b => ⟨Vw.sat.sub (a.perm (j_ (i_ h_) (j_ (i_ h_) (j_ (i_ h_) (j_ (i_ h_) (j_ (i_ h_) (i_ h_))))))), b.2⟩) (H_ 8 rfl (by kernel_rfl) (a_ (cr_ (k := ro) cq_ ho3 ac_ bl_ rfl rfl 0 rfl) rfl (d_ (o_ rfl (u_ (fun _ a b => ⟨Vw.sat.sub (a.perm (j_ (i_ h_) (j_ (i_ h_) (j_ (i_ h_) (j_ (i_ h_) (j_ (i_ h_) (i_ h_))))))), b.2⟩) (H_ 11 rfl (by kernel_rfl) (bu_ (news := List.flatMap Rul.cells [(Rul.mk (Lib.join (List.take i (Ax.roles x1)) [46]) ro (Lib.join (List.take (i + 1) (Ax.roles x1)) [46]))]) db_ hw3 rfl rfl (fun q => by cases q) (by simp) (i_ (i_ (i_ (i_ (i_ (i_ (i_ W_))))))) (by rw [cC_ Rul.cells 3 Rul.cells_len]; rfl) (fun v _ h => by exact h.1) (fun u hu => ck_ Rul.cells_one hu) (by simp only [maxLen]; omega) (by omega) rfl fun sv3 Hr3 hr3 => ?_)))))))))
           have hq3 : bk_ 150 3 sv3 (List.length ((lat (List.map (fun x => (Rul.s x, x)) R2) ro) ++ [(Rul.mk (Lib.join (List.take i (Ax.roles x1)) [46]) ro (Lib.join (List.take (i + 1) (Ax.roles x1)) [46]))])) (List.flatMap Rul.cells ((lat (List.map (fun x => (Rul.s x, x)) R2) ro) ++ [(Rul.mk (Lib.join (List.take i (Ax.roles x1)) [46]) ro (Lib.join (List.take (i + 1) (Ax.roles x1)) [46]))])) Hr3 := by rw [List.length_append, List.flatMap_append]; exact hr3
           refine d_ (o_ rfl (u_ (fun _ a b => ⟨Vw.sat.sub (a.perm (j_ (w_ (i_ h_)) (j_ (w_ (i_ h_)) (j_ (w_ (i_ h_)) (j_ (w_ (i_ h_)) (j_ (w_ (i_ h_)) (w_ (i_ h_)))))))), b.2⟩) (H_ 12 rfl (by kernel_rfl) (ca_ (k := ro) (dd := (Rul.mk (Lib.join (List.take i (Ax.roles x1)) [46]) ro (Lib.join (List.take (i + 1) (Ax.roles x1)) [46]))) cq_ ho3 (by rw [cE_]; exact hq3) (.inr rfl) ac_ rfl rfl rfl (cD_ (j_ (w_ h_) (ak_ W_ (i_ (i_ (i_ (i_ (i_ (i_ W_))))))))) fun H5 hM5 => ?_))))
           refine d_ (o_ rfl (u_ (fun _ a b => ⟨Vw.sat.sub (a.perm (j_ (w_ h_) (j_ (w_ h_) (j_ (w_ h_) (j_ (w_ h_) (j_ (w_ h_) (w_ h_))))))), b.2⟩) (ad_ (by kernel_rfl) (c_ rfl (Y_ (aA_ (w_ h_) (aA_ (w_ h_) (aA_ (w_ h_) (aA_ (w_ h_) (aA_ (w_ h_) (cM_ (w_ h_))))))) (b_ (a_ (g_ rfl) rfl (a_ (R_ rfl rfl rfl (aq_ (by omega) (by omega))) rfl (a_ (e_ rfl) rfl ?_)))))))))
           refine d_ (o_ rfl ?_)
           exact av_ ⟨(i + 1, cP_ (Ax.rul x1 i) R2, ej1, cj1, H2, H5), by omega, by omega, by rw [cB_ hro (by omega), bN_ (by assumption)]; simpa only [List.map_append, List.map_cons, List.map_nil, if_neg (by assumption)] using hj1, by rw [cB_ hro (by omega), bN_ (by assumption)]; simpa only [List.map_append, List.map_cons, List.map_nil, if_neg (by assumption)] using hM2, by rw [cB_ hro (by omega), bN_ (by assumption)]; simpa only [List.map_append, List.map_cons, List.map_nil, if_neg (by assumption)] using hM5, by have := cO_ (y := Ax.rul x1 i) (l := R2); dsimp only; omega, fun z hz => aB_.2 (.inl (hG0 z hz)), fun j g1 g2 => by rcases Nat.lt_or_ge j i with g | g; exact aB_.2 (.inl (hG1 j g1 g)); obtain rfl : j = i := (by omega); exact aB_.2 (.inr rfl)⟩ (by dsimp only; omega) ⟨rfl, rfl, rfl, rfl, rfl, rfl, rfl, rfl, trivial⟩ (j_ h_ (j_ (i_ h_) (j_ h_ (j_ h_ (ak_ (i_ (i_ bT_)) (ak_ (i_ bh_) h_)))))) (fun _ _ h => h.2.2)
         ·
          refine X_ aG_ as_ aP_ rfl rfl rfl rfl rfl rfl fun b14 => ?_
          refine at_ (List.flatMap Rul.cells [(Rul.mk (Lib.join (List.take i (Ax.roles x1)) [46]) ro (Lib.join (List.take (i + 1) (Ax.roles x1)) [46]))]) h_ rfl ?_
          refine d_ (o_ rfl (u_ (fun _ a b => ⟨Vw.sat.sub (a.perm (j_ (i_ h_) (j_ (i_ h_) (j_ (i_ h_) (j_ (i_ h_) (j_ (i_ h_) (i_ h_))))))), b.2⟩) (H_ 8 rfl (by kernel_rfl) (a_ (cr_ (k := (Lib.join (List.take i (Ax.roles x1)) [46])) cq_ ho1 ac_ bl_ rfl rfl 0 rfl) rfl (d_ (o_ rfl (u_ (fun _ a b => ⟨Vw.sat.sub (a.perm (j_ (i_ h_) (j_ (i_ h_) (j_ (i_ h_) (j_ (i_ h_) (j_ (i_ h_) (i_ h_))))))), b.2⟩) (H_ 11 rfl (by kernel_rfl) (bu_ (news := List.flatMap Rul.cells [(Rul.mk (Lib.join (List.take i (Ax.roles x1)) [46]) ro (Lib.join (List.take (i + 1) (Ax.roles x1)) [46]))]) db_ hw1 rfl rfl (fun q => by cases q) (by simp) (i_ (i_ (i_ (i_ (i_ (i_ (i_ W_))))))) (by rw [cC_ Rul.cells 3 Rul.cells_len]; rfl) (fun v _ h => by exact h.1) (fun u hu => ck_ Rul.cells_one hu) (by simp only [maxLen]; omega) (by omega) rfl fun sv4 Hr4 hr4 => ?_)))))))))
          have hq4 : bk_ 150 3 sv4 (List.length ((lat (List.map (fun x => (Rul.f x, x)) R2) (Lib.join (List.take i (Ax.roles x1)) [46])) ++ [(Rul.mk (Lib.join (List.take i (Ax.roles x1)) [46]) ro (Lib.join (List.take (i + 1) (Ax.roles x1)) [46]))])) (List.flatMap Rul.cells ((lat (List.map (fun x => (Rul.f x, x)) R2) (Lib.join (List.take i (Ax.roles x1)) [46])) ++ [(Rul.mk (Lib.join (List.take i (Ax.roles x1)) [46]) ro (Lib.join (List.take (i + 1) (Ax.roles x1)) [46]))])) Hr4 := by rw [List.length_append, List.flatMap_append]; exact hr4
          refine d_ (o_ rfl (u_ (fun _ a b => ⟨Vw.sat.sub (a.perm (j_ (w_ (i_ h_)) (j_ (w_ (i_ h_)) (j_ (w_ (i_ h_)) (j_ (w_ (i_ h_)) (j_ (w_ (i_ h_)) (w_ (i_ h_)))))))), b.2⟩) (H_ 12 rfl (by kernel_rfl) (ca_ (k := (Lib.join (List.take i (Ax.roles x1)) [46])) (dd := (Rul.mk (Lib.join (List.take i (Ax.roles x1)) [46]) ro (Lib.join (List.take (i + 1) (Ax.roles x1)) [46]))) cq_ ho1 (by rw [cE_]; exact hq4) (.inr rfl) ac_ rfl rfl rfl (cD_ (j_ (w_ h_) (ak_ W_ (i_ (i_ (i_ (i_ (i_ (i_ W_))))))))) fun H6 hM6 => ?_))))
          refine d_ (o_ rfl (u_ (fun _ a b => ⟨Vw.sat.sub (a.perm (j_ (w_ h_) (j_ (w_ h_) (j_ (w_ h_) (j_ (w_ h_) (j_ (w_ h_) (w_ h_))))))), b.2⟩) (ad_ (by kernel_rfl) (c_ rfl ?_))))
          have hbl := eb_ (List.map (fun x => (Rul.s x, x)) R2) ro
          rw [List.length_map] at hbl
          have hbb7 := hbl
          refine fb_ cq_ ro hm2x (w_ (i_ (i_ (i_ (i_ (i_ bh_)))))) fun es7 ce7 ve7 Hk7 Hx7 hw7 ho7 => ?_
          refine Y_ (aA_ h_ (aA_ (w_ (w_ (w_ h_))) (aA_ (w_ (w_ (w_ h_))) (aA_ (w_ (w_ (w_ h_))) (aA_ (w_ (w_ (w_ h_))) (aA_ (w_ (w_ (w_ h_))) (cM_ (w_ (w_ bT_))))))))) ?_
          refine aW_ ((b1, .cells #[.map none, .map none, .map none, .slice none 0 0] 140 (0, 0)) :: ((b2, .map #[] 0) :: ((b5, .cells #[.map (some b2), .map (some b3), .map (some b4), .slice none 0 0] 140 (0, 0)) :: ((b6, .map ej1 cj1) :: ((b7, .cells #[.int .i64 (Ax.kind x1), .bool (Ax.opn x1), .int .i64 (Con.kind (Ax.left x1)), str (Con.name (Ax.left x1)), .int .i64 (Con.lo (Ax.left x1)), .int .i64 (Con.hi (Ax.left x1)), .slice (Con.ad (Ax.left x1)) (List.length (Con.parts (Ax.left x1))) (Con.cap (Ax.left x1)), .int .i64 (Con.kind (Ax.right x1)), str (Con.name (Ax.right x1)), .int .i64 (Con.lo (Ax.right x1)), .int .i64 (Con.hi (Ax.right x1)), .slice (Con.ad (Ax.right x1)) (List.length (Con.parts (Ax.right x1))) (Con.cap (Ax.right x1)), .slice (Ax.ad x1) (List.length (Ax.roles x1)) (Ax.cap x1), str (Ax.role x1), str (Ax.a x1), str (Ax.b x1)] 41 (0, 0)) :: ((z15_17, .cells #[str (Lib.join (List.take i (Ax.roles x1)) [46]), str ro, str (Lib.join (List.take (i + 1) (Ax.roles x1)) [46])] 150 (0, 0)) :: [])))))) (by kernel_rfl) ?_
          refine ab_ 4 [0, 1, 2, 3, 4, 5, 6, 7, 9] (by kernel_rfl) (fun _ a b => ⟨Vw.sat.sub (a.perm (j_ (i_ h_) (j_ (i_ h_) (j_ (i_ h_) (j_ (i_ h_) (j_ (i_ h_) (i_ h_))))))), b⟩) (s_ rfl (m_ aC_ rfl rfl rfl bD_) rfl (s_ rfl (t_ 2 bX_ rfl rfl rfl) rfl (s_ rfl (m_ ax_ rfl rfl rfl z_) rfl (s_ rfl (t_ 5 E_ rfl rfl rfl) rfl (s_ rfl (m_ aC_ rfl rfl rfl bD_) rfl (s_ rfl (t_ 2 bX_ rfl rfl rfl) rfl (s_ rfl (m_ ax_ rfl rfl rfl z_) rfl (s_ rfl (t_ 5 E_ rfl rfl rfl) rfl (s_ rfl (G_ 5 cx_ as_ rfl rfl rfl) rfl ?_)))))))))
          refine aa_ ?_
          refine cg_ 8 10 rfl rfl (by kernel_rfl) ?_ ?_
          ·
           refine a_ (cr_ (k := ro) cq_ ho7 ac_ bl_ rfl rfl 0 rfl) rfl (d_ (o_ rfl (u_ (fun _ a b => ⟨Vw.sat.sub (a.perm (j_ (i_ h_) (j_ (i_ h_) (j_ (i_ h_) (j_ (i_ h_) (j_ (i_ h_) (i_ h_))))))), b⟩) (H_ 10 rfl (by kernel_rfl) (X_ aG_ as_ aP_ rfl rfl rfl rfl rfl rfl fun b15 => ?_)))))
           refine at_ (List.flatMap Rul.cells [(Rul.mk (Lib.join (List.take i (Ax.roles x1)) [46]) ro (Lib.join (List.take (i + 1) (Ax.roles x1)) [46]))]) h_ rfl ?_
           refine d_ (o_ rfl (u_ (fun _ a b => ⟨Vw.sat.sub (a.perm (j_ (i_ h_) (j_ (i_ h_) (j_ (i_ h_) (j_ (i_ h_) (j_ (i_ h_) (i_ h_))))))), b.2⟩) (H_ 11 rfl (by kernel_rfl) (bu_ (news := List.flatMap Rul.cells [(Rul.mk (Lib.join (List.take i (Ax.roles x1)) [46]) ro (Lib.join (List.take (i + 1) (Ax.roles x1)) [46]))]) db_ hw7 rfl rfl (fun q => by cases q) (by simp) (i_ (i_ (i_ (i_ (i_ (i_ (i_ W_))))))) (by rw [cC_ Rul.cells 3 Rul.cells_len]; rfl) (fun v _ h => by exact h.1) (fun u hu => ck_ Rul.cells_one hu) (by simp only [maxLen]; omega) (by omega) rfl fun sv5 Hr5 hr5 => ?_))))
           have hq5 : bk_ 150 3 sv5 (List.length ((lat (List.map (fun x => (Rul.s x, x)) R2) ro) ++ [(Rul.mk (Lib.join (List.take i (Ax.roles x1)) [46]) ro (Lib.join (List.take (i + 1) (Ax.roles x1)) [46]))])) (List.flatMap Rul.cells ((lat (List.map (fun x => (Rul.s x, x)) R2) ro) ++ [(Rul.mk (Lib.join (List.take i (Ax.roles x1)) [46]) ro (Lib.join (List.take (i + 1) (Ax.roles x1)) [46]))])) Hr5 := by rw [List.length_append, List.flatMap_append]; exact hr5
           refine d_ (o_ rfl (u_ (fun _ a b => ⟨Vw.sat.sub (a.perm (j_ (w_ (i_ h_)) (j_ (w_ (i_ h_)) (j_ (w_ (i_ h_)) (j_ (w_ (i_ h_)) (j_ (w_ (i_ h_)) (w_ (i_ h_)))))))), b.2⟩) (H_ 12 rfl (by kernel_rfl) (ca_ (k := ro) (dd := (Rul.mk (Lib.join (List.take i (Ax.roles x1)) [46]) ro (Lib.join (List.take (i + 1) (Ax.roles x1)) [46]))) cq_ ho7 (by rw [cE_]; exact hq5) (.inr rfl) ac_ rfl rfl rfl (cD_ (j_ (w_ h_) (ak_ W_ (i_ (i_ (i_ (i_ (i_ (i_ W_))))))))) fun H8 hM8 => ?_))))
           refine d_ (o_ rfl (u_ (fun _ a b => ⟨Vw.sat.sub (a.perm (j_ (w_ h_) (j_ (w_ h_) (j_ (w_ h_) (j_ (w_ h_) (j_ (w_ h_) (w_ h_))))))), b.2⟩) (ad_ (by kernel_rfl) (c_ rfl (Y_ (aA_ (w_ h_) (aA_ (w_ h_) (aA_ (w_ h_) (aA_ (w_ h_) (aA_ (w_ h_) (cM_ (w_ h_))))))) (b_ (a_ (g_ rfl) rfl (a_ (R_ rfl rfl rfl (aq_ (by omega) (by omega))) rfl (a_ (e_ rfl) rfl ?_)))))))))
           refine d_ (o_ rfl ?_)
           exact av_ ⟨(i + 1, cP_ (Ax.rul x1 i) R2, ej1, cj1, H6, H8), by omega, by omega, by rw [cB_ hro (by omega), bN_ (by assumption)]; simpa only [List.map_append, List.map_cons, List.map_nil, if_neg (by assumption)] using hj1, by rw [cB_ hro (by omega), bN_ (by assumption)]; simpa only [List.map_append, List.map_cons, List.map_nil, if_neg (by assumption)] using hM6, by rw [cB_ hro (by omega), bN_ (by assumption)]; simpa only [List.map_append, List.map_cons, List.map_nil, if_neg (by assumption)] using hM8, by have := cO_ (y := Ax.rul x1 i) (l := R2); dsimp only; omega, fun z hz => aB_.2 (.inl (hG0 z hz)), fun j g1 g2 => by rcases Nat.lt_or_ge j i with g | g; exact aB_.2 (.inl (hG1 j g1 g)); obtain rfl : j = i := (by omega); exact aB_.2 (.inr rfl)⟩ (by dsimp only; omega) ⟨rfl, rfl, rfl, rfl, rfl, rfl, rfl, rfl, trivial⟩ (j_ h_ (j_ (i_ h_) (j_ h_ (j_ h_ (ak_ (i_ (i_ bT_)) (ak_ (i_ bh_) h_)))))) (fun _ _ h => h.2.2)
          ·
           refine X_ aG_ as_ aP_ rfl rfl rfl rfl rfl rfl fun b16 => ?_
           refine at_ (List.flatMap Rul.cells [(Rul.mk (Lib.join (List.take i (Ax.roles x1)) [46]) ro (Lib.join (List.take (i + 1) (Ax.roles x1)) [46]))]) h_ rfl ?_
           refine d_ (o_ rfl (u_ (fun _ a b => ⟨Vw.sat.sub (a.perm (j_ (i_ h_) (j_ (i_ h_) (j_ (i_ h_) (j_ (i_ h_) (j_ (i_ h_) (i_ h_))))))), b.2⟩) (H_ 8 rfl (by kernel_rfl) (a_ (cr_ (k := ro) cq_ ho7 ac_ bl_ rfl rfl 0 rfl) rfl (d_ (o_ rfl (u_ (fun _ a b => ⟨Vw.sat.sub (a.perm (j_ (i_ h_) (j_ (i_ h_) (j_ (i_ h_) (j_ (i_ h_) (j_ (i_ h_) (i_ h_))))))), b.2⟩) (H_ 11 rfl (by kernel_rfl) (bu_ (news := List.flatMap Rul.cells [(Rul.mk (Lib.join (List.take i (Ax.roles x1)) [46]) ro (Lib.join (List.take (i + 1) (Ax.roles x1)) [46]))]) db_ hw7 rfl rfl (fun q => by cases q) (by simp) (i_ (i_ (i_ (i_ (i_ (i_ (i_ W_))))))) (by rw [cC_ Rul.cells 3 Rul.cells_len]; rfl) (fun v _ h => by exact h.1) (fun u hu => ck_ Rul.cells_one hu) (by simp only [maxLen]; omega) (by omega) rfl fun sv6 Hr6 hr6 => ?_)))))))))
           have hq6 : bk_ 150 3 sv6 (List.length ((lat (List.map (fun x => (Rul.s x, x)) R2) ro) ++ [(Rul.mk (Lib.join (List.take i (Ax.roles x1)) [46]) ro (Lib.join (List.take (i + 1) (Ax.roles x1)) [46]))])) (List.flatMap Rul.cells ((lat (List.map (fun x => (Rul.s x, x)) R2) ro) ++ [(Rul.mk (Lib.join (List.take i (Ax.roles x1)) [46]) ro (Lib.join (List.take (i + 1) (Ax.roles x1)) [46]))])) Hr6 := by rw [List.length_append, List.flatMap_append]; exact hr6
           refine d_ (o_ rfl (u_ (fun _ a b => ⟨Vw.sat.sub (a.perm (j_ (w_ (i_ h_)) (j_ (w_ (i_ h_)) (j_ (w_ (i_ h_)) (j_ (w_ (i_ h_)) (j_ (w_ (i_ h_)) (w_ (i_ h_)))))))), b.2⟩) (H_ 12 rfl (by kernel_rfl) (ca_ (k := ro) (dd := (Rul.mk (Lib.join (List.take i (Ax.roles x1)) [46]) ro (Lib.join (List.take (i + 1) (Ax.roles x1)) [46]))) cq_ ho7 (by rw [cE_]; exact hq6) (.inr rfl) ac_ rfl rfl rfl (cD_ (j_ (w_ h_) (ak_ W_ (i_ (i_ (i_ (i_ (i_ (i_ W_))))))))) fun H9 hM9 => ?_))))
           refine d_ (o_ rfl (u_ (fun _ a b => ⟨Vw.sat.sub (a.perm (j_ (w_ h_) (j_ (w_ h_) (j_ (w_ h_) (j_ (w_ h_) (j_ (w_ h_) (w_ h_))))))), b.2⟩) (ad_ (by kernel_rfl) (c_ rfl (Y_ (aA_ (w_ h_) (aA_ (w_ h_) (aA_ (w_ h_) (aA_ (w_ h_) (aA_ (w_ h_) (cM_ (w_ h_))))))) (b_ (a_ (g_ rfl) rfl (a_ (R_ rfl rfl rfl (aq_ (by omega) (by omega))) rfl (a_ (e_ rfl) rfl ?_)))))))))
           refine d_ (o_ rfl ?_)
           exact av_ ⟨(i + 1, cP_ (Ax.rul x1 i) R2, ej1, cj1, H6, H9), by omega, by omega, by rw [cB_ hro (by omega), bN_ (by assumption)]; simpa only [List.map_append, List.map_cons, List.map_nil, if_neg (by assumption)] using hj1, by rw [cB_ hro (by omega), bN_ (by assumption)]; simpa only [List.map_append, List.map_cons, List.map_nil, if_neg (by assumption)] using hM6, by rw [cB_ hro (by omega), bN_ (by assumption)]; simpa only [List.map_append, List.map_cons, List.map_nil, if_neg (by assumption)] using hM9, by have := cO_ (y := Ax.rul x1 i) (l := R2); dsimp only; omega, fun z hz => aB_.2 (.inl (hG0 z hz)), fun j g1 g2 => by rcases Nat.lt_or_ge j i with g | g; exact aB_.2 (.inl (hG1 j g1 g)); obtain rfl : j = i := (by omega); exact aB_.2 (.inr rfl)⟩ (by dsimp only; omega) ⟨rfl, rfl, rfl, rfl, rfl, rfl, rfl, rfl, trivial⟩ (j_ h_ (j_ (i_ h_) (j_ h_ (j_ h_ (ak_ (i_ (i_ bT_)) (ak_ (i_ bh_) h_)))))) (fun _ _ h => h.2.2)
        ·
         replace hr7 := of_decide_eq_true hr7
         refine r_ rfl (D_ (c_ rfl (b_ (a_ (g_ rfl) rfl (a_ (R_ rfl rfl rfl (aq_ (by omega) (by omega))) rfl (a_ (e_ rfl) rfl (d_ (o_ rfl ?_))))))))
         exact av_ ⟨(i + 1, cP_ (Ax.rul x1 i) R2, es2, cs2, Q12, Q22), by omega, by omega, by rw [cB_ hro (by omega), dF_ (by assumption)]; simpa only [if_pos (by assumption)] using hEx, by rw [cB_ hro (by omega), dF_ (by assumption)]; simpa only [if_pos (by assumption)] using hm1x, by rw [cB_ hro (by omega), dF_ (by assumption)]; simpa only [if_pos (by assumption)] using hm2x, by have := cO_ (y := Ax.rul x1 i) (l := R2); dsimp only; omega, fun z hz => aB_.2 (.inl (hG0 z hz)), fun j g1 g2 => by rcases Nat.lt_or_ge j i with g | g; exact aB_.2 (.inl (hG1 j g1 g)); obtain rfl : j = i := (by omega); exact aB_.2 (.inr rfl)⟩ (by dsimp only; omega) ⟨rfl, rfl, rfl, rfl, rfl, rfl, rfl, rfl, trivial⟩ (j_ h_ (j_ (i_ h_) (j_ h_ (j_ h_ (ak_ (i_ (i_ W_)) (ak_ (i_ bh_) h_)))))) (fun _ _ h => h)
       ·
        replace hr6 := eq_of_beq hr6
        refine p_ rfl (b_ (a_ (m_ l_ rfl rfl rfl z_) rfl (a_ (t_ 4 E_ rfl rfl rfl) rfl (a_ (m_ ax_ rfl rfl rfl z_) rfl (ah_ 5 z_ rfl rfl rfl rfl rfl rfl (d_ (c_ rfl (f_ (b_ ?_)))))))))
        refine a_ (g_ rfl) rfl (a_ (G_ 5 cx_ as_ rfl rfl rfl) rfl (v_ (fU_ (k := (Rul.mk (Lib.join (List.take i (Ax.roles x1)) [46]) ro (Ax.role x1))) hE_ jP_ Tryz.zeroValue4 rfl rfl hEx (fun v h _ => (h.own _ (List.mem_of_getElem? (i := 3) rfl)).1)) rfl fun r8 hr8 => ?_))
        refine a_ (bf_ rfl) rfl (d_ (c_ rfl ?_))
        cases r8
        ·
         replace hr8 := of_decide_eq_false hr8
         refine p_ rfl (f_ (b_ (a_ (g_ rfl) rfl (a_ (G_ 5 cx_ as_ rfl rfl rfl) rfl (iq_ (k := (Rul.mk (Lib.join (List.take i (Ax.roles x1)) [46]) ro (Ax.role x1))) 3 hE_ (.inr rfl) jP_ rfl rfl rfl rfl hEx fun ej2 cj2 hj2 => ?_)))))
         refine d_ (c_ rfl ?_)
         have hbl := eb_ (List.map (fun x => (Rul.f x, x)) R2) (Lib.join (List.take i (Ax.roles x1)) [46])
         rw [List.length_map] at hbl
         have hbb10 := hbl
         refine fb_ cq_ (Lib.join (List.take i (Ax.roles x1)) [46]) hm1x (i_ (i_ (i_ (i_ (i_ (i_ W_)))))) fun es10 ce10 ve10 Hk10 Hx10 hw10 ho10 => ?_
         refine Y_ (aA_ h_ (aA_ (w_ (w_ h_)) (aA_ (w_ (w_ h_)) (aA_ (w_ (w_ h_)) (aA_ (w_ (w_ h_)) (aA_ (w_ (w_ h_)) (cM_ (w_ (w_ h_))))))))) (f_ ?_)
         refine aW_ ((b1, .cells #[.map none, .map none, .map none, .slice none 0 0] 140 (0, 0)) :: ((b2, .map #[] 0) :: ((b5, .cells #[.map (some b2), .map (some b3), .map (some b4), .slice none 0 0] 140 (0, 0)) :: ((b6, .map ej2 cj2) :: ((b7, .cells #[.int .i64 (Ax.kind x1), .bool (Ax.opn x1), .int .i64 (Con.kind (Ax.left x1)), str (Con.name (Ax.left x1)), .int .i64 (Con.lo (Ax.left x1)), .int .i64 (Con.hi (Ax.left x1)), .slice (Con.ad (Ax.left x1)) (List.length (Con.parts (Ax.left x1))) (Con.cap (Ax.left x1)), .int .i64 (Con.kind (Ax.right x1)), str (Con.name (Ax.right x1)), .int .i64 (Con.lo (Ax.right x1)), .int .i64 (Con.hi (Ax.right x1)), .slice (Con.ad (Ax.right x1)) (List.length (Con.parts (Ax.right x1))) (Con.cap (Ax.right x1)), .slice (Ax.ad x1) (List.length (Ax.roles x1)) (Ax.cap x1), str (Ax.role x1), str (Ax.a x1), str (Ax.b x1)] 41 (0, 0)) :: ((z15_17, .cells #[str (Lib.join (List.take i (Ax.roles x1)) [46]), str ro, str (Ax.role x1)] 150 (0, 0)) :: [])))))) (by kernel_rfl) ?_
         refine ab_ 4 [0, 1, 2, 3, 4, 5, 6, 7, 9] (by kernel_rfl) (fun _ a b => ⟨Vw.sat.sub (a.perm (j_ (i_ h_) (j_ (i_ h_) (j_ (i_ h_) (j_ (i_ h_) (j_ (i_ h_) (i_ h_))))))), b⟩) (s_ rfl (m_ aC_ rfl rfl rfl bD_) rfl (s_ rfl (t_ 2 bX_ rfl rfl rfl) rfl (s_ rfl (m_ ax_ rfl rfl rfl z_) rfl (s_ rfl (t_ 5 E_ rfl rfl rfl) rfl (s_ rfl (m_ aC_ rfl rfl rfl bD_) rfl (s_ rfl (t_ 2 bX_ rfl rfl rfl) rfl (s_ rfl (m_ ax_ rfl rfl rfl z_) rfl (s_ rfl (t_ 5 E_ rfl rfl rfl) rfl (s_ rfl (G_ 5 cx_ as_ rfl rfl rfl) rfl ?_)))))))))
         refine aa_ ?_
         refine cg_ 8 10 rfl rfl (by kernel_rfl) ?_ ?_
         ·
          refine a_ (cr_ (k := (Lib.join (List.take i (Ax.roles x1)) [46])) cq_ ho10 ac_ bl_ rfl rfl 0 rfl) rfl (d_ (o_ rfl (u_ (fun _ a b => ⟨Vw.sat.sub (a.perm (j_ (i_ h_) (j_ (i_ h_) (j_ (i_ h_) (j_ (i_ h_) (j_ (i_ h_) (i_ h_))))))), b⟩) (H_ 10 rfl (by kernel_rfl) (X_ aG_ as_ aP_ rfl rfl rfl rfl rfl rfl fun b17 => ?_)))))
          refine at_ (List.flatMap Rul.cells [(Rul.mk (Lib.join (List.take i (Ax.roles x1)) [46]) ro (Ax.role x1))]) h_ rfl ?_
          refine d_ (o_ rfl (u_ (fun _ a b => ⟨Vw.sat.sub (a.perm (j_ (i_ h_) (j_ (i_ h_) (j_ (i_ h_) (j_ (i_ h_) (j_ (i_ h_) (i_ h_))))))), b.2⟩) (H_ 11 rfl (by kernel_rfl) (bu_ (news := List.flatMap Rul.cells [(Rul.mk (Lib.join (List.take i (Ax.roles x1)) [46]) ro (Ax.role x1))]) db_ hw10 rfl rfl (fun q => by cases q) (by simp) (i_ (i_ (i_ (i_ (i_ (i_ (i_ W_))))))) (by rw [cC_ Rul.cells 3 Rul.cells_len]; rfl) (fun v _ h => by exact h.1) (fun u hu => ck_ Rul.cells_one hu) (by simp only [maxLen]; omega) (by omega) rfl fun sv7 Hr7 hr7 => ?_))))
          have hq7 : bk_ 150 3 sv7 (List.length ((lat (List.map (fun x => (Rul.f x, x)) R2) (Lib.join (List.take i (Ax.roles x1)) [46])) ++ [(Rul.mk (Lib.join (List.take i (Ax.roles x1)) [46]) ro (Ax.role x1))])) (List.flatMap Rul.cells ((lat (List.map (fun x => (Rul.f x, x)) R2) (Lib.join (List.take i (Ax.roles x1)) [46])) ++ [(Rul.mk (Lib.join (List.take i (Ax.roles x1)) [46]) ro (Ax.role x1))])) Hr7 := by rw [List.length_append, List.flatMap_append]; exact hr7
          refine d_ (o_ rfl (u_ (fun _ a b => ⟨Vw.sat.sub (a.perm (j_ (w_ (i_ h_)) (j_ (w_ (i_ h_)) (j_ (w_ (i_ h_)) (j_ (w_ (i_ h_)) (j_ (w_ (i_ h_)) (w_ (i_ h_)))))))), b.2⟩) (H_ 12 rfl (by kernel_rfl) (ca_ (k := (Lib.join (List.take i (Ax.roles x1)) [46])) (dd := (Rul.mk (Lib.join (List.take i (Ax.roles x1)) [46]) ro (Ax.role x1))) cq_ ho10 (by rw [cE_]; exact hq7) (.inr rfl) ac_ rfl rfl rfl (cD_ (j_ (w_ h_) (ak_ W_ (i_ (i_ (i_ (i_ (i_ (i_ W_))))))))) fun H11 hM11 => ?_))))
          refine d_ (o_ rfl (u_ (fun _ a b => ⟨Vw.sat.sub (a.perm (j_ (w_ h_) (j_ (w_ h_) (j_ (w_ h_) (j_ (w_ h_) (j_ (w_ h_) (w_ h_))))))), b.2⟩) (ad_ (by kernel_rfl) (c_ rfl ?_))))
          have hbl := eb_ (List.map (fun x => (Rul.s x, x)) R2) ro
          rw [List.length_map] at hbl
          have hbb12 := hbl
          refine fb_ cq_ ro hm2x (w_ (i_ (i_ (i_ (i_ (i_ bh_)))))) fun es12 ce12 ve12 Hk12 Hx12 hw12 ho12 => ?_
          refine Y_ (aA_ h_ (aA_ (w_ (w_ (w_ h_))) (aA_ (w_ (w_ (w_ h_))) (aA_ (w_ (w_ (w_ h_))) (aA_ (w_ (w_ (w_ h_))) (aA_ (w_ (w_ (w_ h_))) (cM_ (w_ (w_ bT_))))))))) ?_
          refine aW_ ((b1, .cells #[.map none, .map none, .map none, .slice none 0 0] 140 (0, 0)) :: ((b2, .map #[] 0) :: ((b5, .cells #[.map (some b2), .map (some b3), .map (some b4), .slice none 0 0] 140 (0, 0)) :: ((b6, .map ej2 cj2) :: ((b7, .cells #[.int .i64 (Ax.kind x1), .bool (Ax.opn x1), .int .i64 (Con.kind (Ax.left x1)), str (Con.name (Ax.left x1)), .int .i64 (Con.lo (Ax.left x1)), .int .i64 (Con.hi (Ax.left x1)), .slice (Con.ad (Ax.left x1)) (List.length (Con.parts (Ax.left x1))) (Con.cap (Ax.left x1)), .int .i64 (Con.kind (Ax.right x1)), str (Con.name (Ax.right x1)), .int .i64 (Con.lo (Ax.right x1)), .int .i64 (Con.hi (Ax.right x1)), .slice (Con.ad (Ax.right x1)) (List.length (Con.parts (Ax.right x1))) (Con.cap (Ax.right x1)), .slice (Ax.ad x1) (List.length (Ax.roles x1)) (Ax.cap x1), str (Ax.role x1), str (Ax.a x1), str (Ax.b x1)] 41 (0, 0)) :: ((z15_17, .cells #[str (Lib.join (List.take i (Ax.roles x1)) [46]), str ro, str (Ax.role x1)] 150 (0, 0)) :: [])))))) (by kernel_rfl) ?_
          refine ab_ 4 [0, 1, 2, 3, 4, 5, 6, 7, 9] (by kernel_rfl) (fun _ a b => ⟨Vw.sat.sub (a.perm (j_ (i_ h_) (j_ (i_ h_) (j_ (i_ h_) (j_ (i_ h_) (j_ (i_ h_) (i_ h_))))))), b⟩) (s_ rfl (m_ aC_ rfl rfl rfl bD_) rfl (s_ rfl (t_ 2 bX_ rfl rfl rfl) rfl (s_ rfl (m_ ax_ rfl rfl rfl z_) rfl (s_ rfl (t_ 5 E_ rfl rfl rfl) rfl (s_ rfl (m_ aC_ rfl rfl rfl bD_) rfl (s_ rfl (t_ 2 bX_ rfl rfl rfl) rfl (s_ rfl (m_ ax_ rfl rfl rfl z_) rfl (s_ rfl (t_ 5 E_ rfl rfl rfl) rfl (s_ rfl (G_ 5 cx_ as_ rfl rfl rfl) rfl ?_)))))))))
          refine aa_ ?_
          refine cg_ 8 10 rfl rfl (by kernel_rfl) ?_ ?_
          ·
           refine a_ (cr_ (k := ro) cq_ ho12 ac_ bl_ rfl rfl 0 rfl) rfl (d_ (o_ rfl (u_ (fun _ a b => ⟨Vw.sat.sub (a.perm (j_ (i_ h_) (j_ (i_ h_) (j_ (i_ h_) (j_ (i_ h_) (j_ (i_ h_) (i_ h_))))))), b⟩) (H_ 10 rfl (by kernel_rfl) (X_ aG_ as_ aP_ rfl rfl rfl rfl rfl rfl fun b18 => ?_)))))
           refine at_ (List.flatMap Rul.cells [(Rul.mk (Lib.join (List.take i (Ax.roles x1)) [46]) ro (Ax.role x1))]) h_ rfl ?_
           refine d_ (o_ rfl (u_ (fun _ a b => ⟨Vw.sat.sub (a.perm (j_ (i_ h_) (j_ (i_ h_) (j_ (i_ h_) (j_ (i_ h_) (j_ (i_ h_) (i_ h_))))))), b.2⟩) (H_ 11 rfl (by kernel_rfl) (bu_ (news := List.flatMap Rul.cells [(Rul.mk (Lib.join (List.take i (Ax.roles x1)) [46]) ro (Ax.role x1))]) db_ hw12 rfl rfl (fun q => by cases q) (by simp) (i_ (i_ (i_ (i_ (i_ (i_ (i_ W_))))))) (by rw [cC_ Rul.cells 3 Rul.cells_len]; rfl) (fun v _ h => by exact h.1) (fun u hu => ck_ Rul.cells_one hu) (by simp only [maxLen]; omega) (by omega) rfl fun sv8 Hr8 hr8 => ?_))))
           have hq8 : bk_ 150 3 sv8 (List.length ((lat (List.map (fun x => (Rul.s x, x)) R2) ro) ++ [(Rul.mk (Lib.join (List.take i (Ax.roles x1)) [46]) ro (Ax.role x1))])) (List.flatMap Rul.cells ((lat (List.map (fun x => (Rul.s x, x)) R2) ro) ++ [(Rul.mk (Lib.join (List.take i (Ax.roles x1)) [46]) ro (Ax.role x1))])) Hr8 := by rw [List.length_append, List.flatMap_append]; exact hr8
           refine d_ (o_ rfl (u_ (fun _ a b => ⟨Vw.sat.sub (a.perm (j_ (w_ (i_ h_)) (j_ (w_ (i_ h_)) (j_ (w_ (i_ h_)) (j_ (w_ (i_ h_)) (j_ (w_ (i_ h_)) (w_ (i_ h_)))))))), b.2⟩) (H_ 12 rfl (by kernel_rfl) (ca_ (k := ro) (dd := (Rul.mk (Lib.join (List.take i (Ax.roles x1)) [46]) ro (Ax.role x1))) cq_ ho12 (by rw [cE_]; exact hq8) (.inr rfl) ac_ rfl rfl rfl (cD_ (j_ (w_ h_) (ak_ W_ (i_ (i_ (i_ (i_ (i_ (i_ W_))))))))) fun H13 hM13 => ?_))))
           refine d_ (o_ rfl (u_ (fun _ a b => ⟨Vw.sat.sub (a.perm (j_ (w_ h_) (j_ (w_ h_) (j_ (w_ h_) (j_ (w_ h_) (j_ (w_ h_) (w_ h_))))))), b.2⟩) (ad_ (by kernel_rfl) (c_ rfl (Y_ (aA_ (w_ h_) (aA_ (w_ h_) (aA_ (w_ h_) (aA_ (w_ h_) (aA_ (w_ h_) (cM_ (w_ h_))))))) (b_ (a_ (g_ rfl) rfl (a_ (R_ rfl rfl rfl (aq_ (by omega) (by omega))) rfl (a_ (e_ rfl) rfl ?_)))))))))
           refine d_ (o_ rfl ?_)
           exact av_ ⟨(i + 1, cP_ (Ax.rul x1 i) R2, ej2, cj2, H11, H13), by omega, by omega, by rw [ci_ hro (by omega), bN_ (by assumption)]; simpa only [List.map_append, List.map_cons, List.map_nil, if_neg (by assumption)] using hj2, by rw [ci_ hro (by omega), bN_ (by assumption)]; simpa only [List.map_append, List.map_cons, List.map_nil, if_neg (by assumption)] using hM11, by rw [ci_ hro (by omega), bN_ (by assumption)]; simpa only [List.map_append, List.map_cons, List.map_nil, if_neg (by assumption)] using hM13, by have := cO_ (y := Ax.rul x1 i) (l := R2); dsimp only; omega, fun z hz => aB_.2 (.inl (hG0 z hz)), fun j g1 g2 => by rcases Nat.lt_or_ge j i with g | g; exact aB_.2 (.inl (hG1 j g1 g)); obtain rfl : j = i := (by omega); exact aB_.2 (.inr rfl)⟩ (by dsimp only; omega) ⟨rfl, rfl, rfl, rfl, rfl, rfl, rfl, rfl, trivial⟩ (j_ h_ (j_ (i_ h_) (j_ h_ (j_ h_ (ak_ (i_ (i_ bT_)) (ak_ (i_ bh_) h_)))))) (fun _ _ h => h.2.2)
          ·
           refine X_ aG_ as_ aP_ rfl rfl rfl rfl rfl rfl fun b19 => ?_
           refine at_ (List.flatMap Rul.cells [(Rul.mk (Lib.join (List.take i (Ax.roles x1)) [46]) ro (Ax.role x1))]) h_ rfl ?_
           refine d_ (o_ rfl (u_ (fun _ a b => ⟨Vw.sat.sub (a.perm (j_ (i_ h_) (j_ (i_ h_) (j_ (i_ h_) (j_ (i_ h_) (j_ (i_ h_) (i_ h_))))))), b.2⟩) (H_ 8 rfl (by kernel_rfl) (a_ (cr_ (k := ro) cq_ ho12 ac_ bl_ rfl rfl 0 rfl) rfl (d_ (o_ rfl (u_ (fun _ a b => ⟨Vw.sat.sub (a.perm (j_ (i_ h_) (j_ (i_ h_) (j_ (i_ h_) (j_ (i_ h_) (j_ (i_ h_) (i_ h_))))))), b.2⟩) (H_ 11 rfl (by kernel_rfl) (bu_ (news := List.flatMap Rul.cells [(Rul.mk (Lib.join (List.take i (Ax.roles x1)) [46]) ro (Ax.role x1))]) db_ hw12 rfl rfl (fun q => by cases q) (by simp) (i_ (i_ (i_ (i_ (i_ (i_ (i_ W_))))))) (by rw [cC_ Rul.cells 3 Rul.cells_len]; rfl) (fun v _ h => by exact h.1) (fun u hu => ck_ Rul.cells_one hu) (by simp only [maxLen]; omega) (by omega) rfl fun sv9 Hr9 hr9 => ?_)))))))))
           have hq9 : bk_ 150 3 sv9 (List.length ((lat (List.map (fun x => (Rul.s x, x)) R2) ro) ++ [(Rul.mk (Lib.join (List.take i (Ax.roles x1)) [46]) ro (Ax.role x1))])) (List.flatMap Rul.cells ((lat (List.map (fun x => (Rul.s x, x)) R2) ro) ++ [(Rul.mk (Lib.join (List.take i (Ax.roles x1)) [46]) ro (Ax.role x1))])) Hr9 := by rw [List.length_append, List.flatMap_append]; exact hr9
           refine d_ (o_ rfl (u_ (fun _ a b => ⟨Vw.sat.sub (a.perm (j_ (w_ (i_ h_)) (j_ (w_ (i_ h_)) (j_ (w_ (i_ h_)) (j_ (w_ (i_ h_)) (j_ (w_ (i_ h_)) (w_ (i_ h_)))))))), b.2⟩) (H_ 12 rfl (by kernel_rfl) (ca_ (k := ro) (dd := (Rul.mk (Lib.join (List.take i (Ax.roles x1)) [46]) ro (Ax.role x1))) cq_ ho12 (by rw [cE_]; exact hq9) (.inr rfl) ac_ rfl rfl rfl (cD_ (j_ (w_ h_) (ak_ W_ (i_ (i_ (i_ (i_ (i_ (i_ W_))))))))) fun H14 hM14 => ?_))))
           refine d_ (o_ rfl (u_ (fun _ a b => ⟨Vw.sat.sub (a.perm (j_ (w_ h_) (j_ (w_ h_) (j_ (w_ h_) (j_ (w_ h_) (j_ (w_ h_) (w_ h_))))))), b.2⟩) (ad_ (by kernel_rfl) (c_ rfl (Y_ (aA_ (w_ h_) (aA_ (w_ h_) (aA_ (w_ h_) (aA_ (w_ h_) (aA_ (w_ h_) (cM_ (w_ h_))))))) (b_ (a_ (g_ rfl) rfl (a_ (R_ rfl rfl rfl (aq_ (by omega) (by omega))) rfl (a_ (e_ rfl) rfl ?_)))))))))
           refine d_ (o_ rfl ?_)
           exact av_ ⟨(i + 1, cP_ (Ax.rul x1 i) R2, ej2, cj2, H11, H14), by omega, by omega, by rw [ci_ hro (by omega), bN_ (by assumption)]; simpa only [List.map_append, List.map_cons, List.map_nil, if_neg (by assumption)] using hj2, by rw [ci_ hro (by omega), bN_ (by assumption)]; simpa only [List.map_append, List.map_cons, List.map_nil, if_neg (by assumption)] using hM11, by rw [ci_ hro (by omega), bN_ (by assumption)]; simpa only [List.map_append, List.map_cons, List.map_nil, if_neg (by assumption)] using hM14, by have := cO_ (y := Ax.rul x1 i) (l := R2); dsimp only; omega, fun z hz => aB_.2 (.inl (hG0 z hz)), fun j g1 g2 => by rcases Nat.lt_or_ge j i with g | g; exact aB_.2 (.inl (hG1 j g1 g)); obtain rfl : j = i := (by omega); exact aB_.2 (.inr rfl)⟩ (by dsimp only; omega) ⟨rfl, rfl, rfl, rfl, rfl, rfl, rfl, rfl, trivial⟩ (j_ h_ (j_ (i_ h_) (j_ h_ (j_ h_ (ak_ (i_ (i_ bT_)) (ak_ (i_ bh_) h_)))))) (fun _ _ h => h.2.2)
         ·
          refine X_ aG_ as_ aP_ rfl rfl rfl rfl rfl rfl fun b20 => ?_
          refine at_ (List.flatMap Rul.cells [(Rul.mk (Lib.join (List.take i (Ax.roles x1)) [46]) ro (Ax.role x1))]) h_ rfl ?_
          refine d_ (o_ rfl (u_ (fun _ a b => ⟨Vw.sat.sub (a.perm (j_ (i_ h_) (j_ (i_ h_) (j_ (i_ h_) (j_ (i_ h_) (j_ (i_ h_) (i_ h_))))))), b.2⟩) (H_ 8 rfl (by kernel_rfl) (a_ (cr_ (k := (Lib.join (List.take i (Ax.roles x1)) [46])) cq_ ho10 ac_ bl_ rfl rfl 0 rfl) rfl (d_ (o_ rfl (u_ (fun _ a b => ⟨Vw.sat.sub (a.perm (j_ (i_ h_) (j_ (i_ h_) (j_ (i_ h_) (j_ (i_ h_) (j_ (i_ h_) (i_ h_))))))), b.2⟩) (H_ 11 rfl (by kernel_rfl) (bu_ (news := List.flatMap Rul.cells [(Rul.mk (Lib.join (List.take i (Ax.roles x1)) [46]) ro (Ax.role x1))]) db_ hw10 rfl rfl (fun q => by cases q) (by simp) (i_ (i_ (i_ (i_ (i_ (i_ (i_ W_))))))) (by rw [cC_ Rul.cells 3 Rul.cells_len]; rfl) (fun v _ h => by exact h.1) (fun u hu => ck_ Rul.cells_one hu) (by simp only [maxLen]; omega) (by omega) rfl fun sv10 Hr10 hr10 => ?_)))))))))
          have hq10 : bk_ 150 3 sv10 (List.length ((lat (List.map (fun x => (Rul.f x, x)) R2) (Lib.join (List.take i (Ax.roles x1)) [46])) ++ [(Rul.mk (Lib.join (List.take i (Ax.roles x1)) [46]) ro (Ax.role x1))])) (List.flatMap Rul.cells ((lat (List.map (fun x => (Rul.f x, x)) R2) (Lib.join (List.take i (Ax.roles x1)) [46])) ++ [(Rul.mk (Lib.join (List.take i (Ax.roles x1)) [46]) ro (Ax.role x1))])) Hr10 := by rw [List.length_append, List.flatMap_append]; exact hr10
          refine d_ (o_ rfl (u_ (fun _ a b => ⟨Vw.sat.sub (a.perm (j_ (w_ (i_ h_)) (j_ (w_ (i_ h_)) (j_ (w_ (i_ h_)) (j_ (w_ (i_ h_)) (j_ (w_ (i_ h_)) (w_ (i_ h_)))))))), b.2⟩) (H_ 12 rfl (by kernel_rfl) (ca_ (k := (Lib.join (List.take i (Ax.roles x1)) [46])) (dd := (Rul.mk (Lib.join (List.take i (Ax.roles x1)) [46]) ro (Ax.role x1))) cq_ ho10 (by rw [cE_]; exact hq10) (.inr rfl) ac_ rfl rfl rfl (cD_ (j_ (w_ h_) (ak_ W_ (i_ (i_ (i_ (i_ (i_ (i_ W_))))))))) fun H15 hM15 => ?_))))
          refine d_ (o_ rfl (u_ (fun _ a b => ⟨Vw.sat.sub (a.perm (j_ (w_ h_) (j_ (w_ h_) (j_ (w_ h_) (j_ (w_ h_) (j_ (w_ h_) (w_ h_))))))), b.2⟩) (ad_ (by kernel_rfl) (c_ rfl ?_))))
          have hbl := eb_ (List.map (fun x => (Rul.s x, x)) R2) ro
          rw [List.length_map] at hbl
          have hbb16 := hbl
          refine fb_ cq_ ro hm2x (w_ (i_ (i_ (i_ (i_ (i_ bh_)))))) fun es16 ce16 ve16 Hk16 Hx16 hw16 ho16 => ?_
          refine Y_ (aA_ h_ (aA_ (w_ (w_ (w_ h_))) (aA_ (w_ (w_ (w_ h_))) (aA_ (w_ (w_ (w_ h_))) (aA_ (w_ (w_ (w_ h_))) (aA_ (w_ (w_ (w_ h_))) (cM_ (w_ (w_ bT_))))))))) ?_
          refine aW_ ((b1, .cells #[.map none, .map none, .map none, .slice none 0 0] 140 (0, 0)) :: ((b2, .map #[] 0) :: ((b5, .cells #[.map (some b2), .map (some b3), .map (some b4), .slice none 0 0] 140 (0, 0)) :: ((b6, .map ej2 cj2) :: ((b7, .cells #[.int .i64 (Ax.kind x1), .bool (Ax.opn x1), .int .i64 (Con.kind (Ax.left x1)), str (Con.name (Ax.left x1)), .int .i64 (Con.lo (Ax.left x1)), .int .i64 (Con.hi (Ax.left x1)), .slice (Con.ad (Ax.left x1)) (List.length (Con.parts (Ax.left x1))) (Con.cap (Ax.left x1)), .int .i64 (Con.kind (Ax.right x1)), str (Con.name (Ax.right x1)), .int .i64 (Con.lo (Ax.right x1)), .int .i64 (Con.hi (Ax.right x1)), .slice (Con.ad (Ax.right x1)) (List.length (Con.parts (Ax.right x1))) (Con.cap (Ax.right x1)), .slice (Ax.ad x1) (List.length (Ax.roles x1)) (Ax.cap x1), str (Ax.role x1), str (Ax.a x1), str (Ax.b x1)] 41 (0, 0)) :: ((z15_17, .cells #[str (Lib.join (List.take i (Ax.roles x1)) [46]), str ro, str (Ax.role x1)] 150 (0, 0)) :: [])))))) (by kernel_rfl) ?_
          refine ab_ 4 [0, 1, 2, 3, 4, 5, 6, 7, 9] (by kernel_rfl) (fun _ a b => ⟨Vw.sat.sub (a.perm (j_ (i_ h_) (j_ (i_ h_) (j_ (i_ h_) (j_ (i_ h_) (j_ (i_ h_) (i_ h_))))))), b⟩) (s_ rfl (m_ aC_ rfl rfl rfl bD_) rfl (s_ rfl (t_ 2 bX_ rfl rfl rfl) rfl (s_ rfl (m_ ax_ rfl rfl rfl z_) rfl (s_ rfl (t_ 5 E_ rfl rfl rfl) rfl (s_ rfl (m_ aC_ rfl rfl rfl bD_) rfl (s_ rfl (t_ 2 bX_ rfl rfl rfl) rfl (s_ rfl (m_ ax_ rfl rfl rfl z_) rfl (s_ rfl (t_ 5 E_ rfl rfl rfl) rfl (s_ rfl (G_ 5 cx_ as_ rfl rfl rfl) rfl ?_)))))))))
          refine aa_ ?_
          refine cg_ 8 10 rfl rfl (by kernel_rfl) ?_ ?_
          ·
           refine a_ (cr_ (k := ro) cq_ ho16 ac_ bl_ rfl rfl 0 rfl) rfl (d_ (o_ rfl (u_ (fun _ a b => ⟨Vw.sat.sub (a.perm (j_ (i_ h_) (j_ (i_ h_) (j_ (i_ h_) (j_ (i_ h_) (j_ (i_ h_) (i_ h_))))))), b⟩) (H_ 10 rfl (by kernel_rfl) (X_ aG_ as_ aP_ rfl rfl rfl rfl rfl rfl fun b21 => ?_)))))
           refine at_ (List.flatMap Rul.cells [(Rul.mk (Lib.join (List.take i (Ax.roles x1)) [46]) ro (Ax.role x1))]) h_ rfl ?_
           refine d_ (o_ rfl (u_ (fun _ a b => ⟨Vw.sat.sub (a.perm (j_ (i_ h_) (j_ (i_ h_) (j_ (i_ h_) (j_ (i_ h_) (j_ (i_ h_) (i_ h_))))))), b.2⟩) (H_ 11 rfl (by kernel_rfl) (bu_ (news := List.flatMap Rul.cells [(Rul.mk (Lib.join (List.take i (Ax.roles x1)) [46]) ro (Ax.role x1))]) db_ hw16 rfl rfl (fun q => by cases q) (by simp) (i_ (i_ (i_ (i_ (i_ (i_ (i_ W_))))))) (by rw [cC_ Rul.cells 3 Rul.cells_len]; rfl) (fun v _ h => by exact h.1) (fun u hu => ck_ Rul.cells_one hu) (by simp only [maxLen]; omega) (by omega) rfl fun sv11 Hr11 hr11 => ?_))))
           have hq11 : bk_ 150 3 sv11 (List.length ((lat (List.map (fun x => (Rul.s x, x)) R2) ro) ++ [(Rul.mk (Lib.join (List.take i (Ax.roles x1)) [46]) ro (Ax.role x1))])) (List.flatMap Rul.cells ((lat (List.map (fun x => (Rul.s x, x)) R2) ro) ++ [(Rul.mk (Lib.join (List.take i (Ax.roles x1)) [46]) ro (Ax.role x1))])) Hr11 := by rw [List.length_append, List.flatMap_append]; exact hr11
           refine d_ (o_ rfl (u_ (fun _ a b => ⟨Vw.sat.sub (a.perm (j_ (w_ (i_ h_)) (j_ (w_ (i_ h_)) (j_ (w_ (i_ h_)) (j_ (w_ (i_ h_)) (j_ (w_ (i_ h_)) (w_ (i_ h_)))))))), b.2⟩) (H_ 12 rfl (by kernel_rfl) (ca_ (k := ro) (dd := (Rul.mk (Lib.join (List.take i (Ax.roles x1)) [46]) ro (Ax.role x1))) cq_ ho16 (by rw [cE_]; exact hq11) (.inr rfl) ac_ rfl rfl rfl (cD_ (j_ (w_ h_) (ak_ W_ (i_ (i_ (i_ (i_ (i_ (i_ W_))))))))) fun H17 hM17 => ?_))))
           refine d_ (o_ rfl (u_ (fun _ a b => ⟨Vw.sat.sub (a.perm (j_ (w_ h_) (j_ (w_ h_) (j_ (w_ h_) (j_ (w_ h_) (j_ (w_ h_) (w_ h_))))))), b.2⟩) (ad_ (by kernel_rfl) (c_ rfl (Y_ (aA_ (w_ h_) (aA_ (w_ h_) (aA_ (w_ h_) (aA_ (w_ h_) (aA_ (w_ h_) (cM_ (w_ h_))))))) (b_ (a_ (g_ rfl) rfl (a_ (R_ rfl rfl rfl (aq_ (by omega) (by omega))) rfl (a_ (e_ rfl) rfl ?_)))))))))
           refine d_ (o_ rfl ?_)
           exact av_ ⟨(i + 1, cP_ (Ax.rul x1 i) R2, ej2, cj2, H15, H17), by omega, by omega, by rw [ci_ hro (by omega), bN_ (by assumption)]; simpa only [List.map_append, List.map_cons, List.map_nil, if_neg (by assumption)] using hj2, by rw [ci_ hro (by omega), bN_ (by assumption)]; simpa only [List.map_append, List.map_cons, List.map_nil, if_neg (by assumption)] using hM15, by rw [ci_ hro (by omega), bN_ (by assumption)]; simpa only [List.map_append, List.map_cons, List.map_nil, if_neg (by assumption)] using hM17, by have := cO_ (y := Ax.rul x1 i) (l := R2); dsimp only; omega, fun z hz => aB_.2 (.inl (hG0 z hz)), fun j g1 g2 => by rcases Nat.lt_or_ge j i with g | g; exact aB_.2 (.inl (hG1 j g1 g)); obtain rfl : j = i := (by omega); exact aB_.2 (.inr rfl)⟩ (by dsimp only; omega) ⟨rfl, rfl, rfl, rfl, rfl, rfl, rfl, rfl, trivial⟩ (j_ h_ (j_ (i_ h_) (j_ h_ (j_ h_ (ak_ (i_ (i_ bT_)) (ak_ (i_ bh_) h_)))))) (fun _ _ h => h.2.2)
          ·
           refine X_ aG_ as_ aP_ rfl rfl rfl rfl rfl rfl fun b22 => ?_
           refine at_ (List.flatMap Rul.cells [(Rul.mk (Lib.join (List.take i (Ax.roles x1)) [46]) ro (Ax.role x1))]) h_ rfl ?_
           refine d_ (o_ rfl (u_ (fun _ a b => ⟨Vw.sat.sub (a.perm (j_ (i_ h_) (j_ (i_ h_) (j_ (i_ h_) (j_ (i_ h_) (j_ (i_ h_) (i_ h_))))))), b.2⟩) (H_ 8 rfl (by kernel_rfl) (a_ (cr_ (k := ro) cq_ ho16 ac_ bl_ rfl rfl 0 rfl) rfl (d_ (o_ rfl (u_ (fun _ a b => ⟨Vw.sat.sub (a.perm (j_ (i_ h_) (j_ (i_ h_) (j_ (i_ h_) (j_ (i_ h_) (j_ (i_ h_) (i_ h_))))))), b.2⟩) (H_ 11 rfl (by kernel_rfl) (bu_ (news := List.flatMap Rul.cells [(Rul.mk (Lib.join (List.take i (Ax.roles x1)) [46]) ro (Ax.role x1))]) db_ hw16 rfl rfl (fun q => by cases q) (by simp) (i_ (i_ (i_ (i_ (i_ (i_ (i_ W_))))))) (by rw [cC_ Rul.cells 3 Rul.cells_len]; rfl) (fun v _ h => by exact h.1) (fun u hu => ck_ Rul.cells_one hu) (by simp only [maxLen]; omega) (by omega) rfl fun sv12 Hr12 hr12 => ?_)))))))))
           have hq12 : bk_ 150 3 sv12 (List.length ((lat (List.map (fun x => (Rul.s x, x)) R2) ro) ++ [(Rul.mk (Lib.join (List.take i (Ax.roles x1)) [46]) ro (Ax.role x1))])) (List.flatMap Rul.cells ((lat (List.map (fun x => (Rul.s x, x)) R2) ro) ++ [(Rul.mk (Lib.join (List.take i (Ax.roles x1)) [46]) ro (Ax.role x1))])) Hr12 := by rw [List.length_append, List.flatMap_append]; exact hr12
           refine d_ (o_ rfl (u_ (fun _ a b => ⟨Vw.sat.sub (a.perm (j_ (w_ (i_ h_)) (j_ (w_ (i_ h_)) (j_ (w_ (i_ h_)) (j_ (w_ (i_ h_)) (j_ (w_ (i_ h_)) (w_ (i_ h_)))))))), b.2⟩) (H_ 12 rfl (by kernel_rfl) (ca_ (k := ro) (dd := (Rul.mk (Lib.join (List.take i (Ax.roles x1)) [46]) ro (Ax.role x1))) cq_ ho16 (by rw [cE_]; exact hq12) (.inr rfl) ac_ rfl rfl rfl (cD_ (j_ (w_ h_) (ak_ W_ (i_ (i_ (i_ (i_ (i_ (i_ W_))))))))) fun H18 hM18 => ?_))))
           refine d_ (o_ rfl (u_ (fun _ a b => ⟨Vw.sat.sub (a.perm (j_ (w_ h_) (j_ (w_ h_) (j_ (w_ h_) (j_ (w_ h_) (j_ (w_ h_) (w_ h_))))))), b.2⟩) (ad_ (by kernel_rfl) (c_ rfl (Y_ (aA_ (w_ h_) (aA_ (w_ h_) (aA_ (w_ h_) (aA_ (w_ h_) (aA_ (w_ h_) (cM_ (w_ h_))))))) (b_ (a_ (g_ rfl) rfl (a_ (R_ rfl rfl rfl (aq_ (by omega) (by omega))) rfl (a_ (e_ rfl) rfl ?_)))))))))
           refine d_ (o_ rfl ?_)
           exact av_ ⟨(i + 1, cP_ (Ax.rul x1 i) R2, ej2, cj2, H15, H18), by omega, by omega, by rw [ci_ hro (by omega), bN_ (by assumption)]; simpa only [List.map_append, List.map_cons, List.map_nil, if_neg (by assumption)] using hj2, by rw [ci_ hro (by omega), bN_ (by assumption)]; simpa only [List.map_append, List.map_cons, List.map_nil, if_neg (by assumption)] using hM15, by rw [ci_ hro (by omega), bN_ (by assumption)]; simpa only [List.map_append, List.map_cons, List.map_nil, if_neg (by assumption)] using hM18, by have := cO_ (y := Ax.rul x1 i) (l := R2); dsimp only; omega, fun z hz => aB_.2 (.inl (hG0 z hz)), fun j g1 g2 => by rcases Nat.lt_or_ge j i with g | g; exact aB_.2 (.inl (hG1 j g1 g)); obtain rfl : j = i := (by omega); exact aB_.2 (.inr rfl)⟩ (by dsimp only; omega) ⟨rfl, rfl, rfl, rfl, rfl, rfl, rfl, rfl, trivial⟩ (j_ h_ (j_ (i_ h_) (j_ h_ (j_ h_ (ak_ (i_ (i_ bT_)) (ak_ (i_ bh_) h_)))))) (fun _ _ h => h.2.2)
        ·
         replace hr8 := of_decide_eq_true hr8
         refine r_ rfl (D_ (c_ rfl (b_ (a_ (g_ rfl) rfl (a_ (R_ rfl rfl rfl (aq_ (by omega) (by omega))) rfl (a_ (e_ rfl) rfl (d_ (o_ rfl ?_))))))))
         exact av_ ⟨(i + 1, cP_ (Ax.rul x1 i) R2, es2, cs2, Q12, Q22), by omega, by omega, by rw [ci_ hro (by omega), dF_ (by assumption)]; simpa only [if_pos (by assumption)] using hEx, by rw [ci_ hro (by omega), dF_ (by assumption)]; simpa only [if_pos (by assumption)] using hm1x, by rw [ci_ hro (by omega), dF_ (by assumption)]; simpa only [if_pos (by assumption)] using hm2x, by have := cO_ (y := Ax.rul x1 i) (l := R2); dsimp only; omega, fun z hz => aB_.2 (.inl (hG0 z hz)), fun j g1 g2 => by rcases Nat.lt_or_ge j i with g | g; exact aB_.2 (.inl (hG1 j g1 g)); obtain rfl : j = i := (by omega); exact aB_.2 (.inr rfl)⟩ (by dsimp only; omega) ⟨rfl, rfl, rfl, rfl, rfl, rfl, rfl, rfl, trivial⟩ (j_ h_ (j_ (i_ h_) (j_ h_ (j_ h_ (ak_ (i_ (i_ W_)) (ak_ (i_ bh_) h_)))))) (fun _ _ h => h)
   ·
    replace hr3 := eq_of_beq hr3
    exfalso; have := hK x1 hmx1; omega
  ·
   replace hr2 := eq_of_beq hr2
   exfalso; have := hK x1 hmx1; omega
end Go.Proofs.YtoafjmalfclpoaaGreatDoor
namespace Go.Proofs.YtoafjmalfclpoaaGreatDoor
open Go Go.Sx Go.Proofs
attribute [local irreducible] Code.wp wpList wpAnyH
open Go.Vs
theorem kA_ (w : World) : (zeroValue 144).run Tryz.prog w = .ok (.agg (List.replicate 4225 (.bool false)).toArray) w := by
  rw [Tryz.zeroValue144]
  exact congrArg (fun z => Result.ok z w) (by kernel_rfl)
theorem ja_ {N : Nf} {v0 : Vw} {H0 : Hp} {R : Exit → Act → World → Prop} {K : List Kt} {fr : Fr} {H : Hp} {Γ : List Fct} {ops : Array Oper} {l : List Oper} {d : Nat} {ty : TypeId} {ps : String} {af : Array Edge} (hN : Nat.blt d N.n = true)
    (hk : ∀ b, Ops Tryz.prog R N v0 H0 ops l K ((d, zp_ b 0) :: fr) ((b, .cells (List.replicate 4225 (.bool false)).toArray 144 (0, 0)) :: H) Γ) : Ops Tryz.prog R N v0 H0 ops (⟨some d, .alloc 144, ty, ps, af, none⟩ :: l) K fr H Γ :=
  an_ kA_ hN hk
theorem jD_ {y : Itm} {T Q : List Itm} (h : ¬ y ∈ T) : ge_ y T Q = Q ++ [y] := if_neg h
theorem iN_ {y : Itm} {T Q : List Itm} (h : y ∈ T) : ge_ y T Q = Q := if_pos h
theorem jk_ (r : Str) (i j : Nat) (hi : i ≤ 64) (hj : j ≤ 64) (tb qb mb : Nat) (ks : List (Str × Nat)) (T Q : List Itm) (sv : Value) (Hx Hq : Hp) (hT : dA_ 144 mb ks T Hx) (hq : bk_ 146 3 sv (List.length Q) (List.flatMap Itm.cells Q) Hq) (hQl : Q.length ≤ 100000000) : Tri Tryz.prog 123 #[str r, .int .i64 (i : Int), .int .i64 (j : Int), zp_ tb 0, zp_ qb 0] ((qb, .cells #[sv] 142 (0, 0)) :: (Hx ++ Hq)) [dp_ tb (.cells #[.map (some mb)] 104 (0, 0))] (fun _ : {y : List (Str × Nat) × Value × Hp × Hp // dA_ 144 mb y.1 (cP_ (Itm.mk r i j) T) y.2.2.1 ∧ bk_ 146 3 y.2.1 (List.length (ge_ (Itm.mk r i j) T Q)) (List.flatMap Itm.cells (ge_ (Itm.mk r i j) T Q)) y.2.2.2 ∧ ∀ k b, cT_ ks k = some b → cT_ y.1 k = some b} => .tuple #[]) (fun y => (qb, .cells #[y.1.2.1] 142 (0, 0)) :: (y.1.2.2.1 ++ y.1.2.2.2)) (fun _ => []) := by
 refine M_ Tryz.func123 rfl rfl Tryz.ntmps123 rfl fun v0 => ?_
 refine f_ (f_ (b_ (a_ (bx_ dG_ rfl (fun v _ h => by exact h.1) rfl) rfl (a_ (g_ rfl) rfl (a_ (de_ (k := r) cq_ bV_ cX_ hT rfl rfl (i_ W_)) rfl (v_ (kp_ Tryz.underlying103 rfl rfl) rfl fun r1 hr1 => ?_))))))
 refine d_ (c_ rfl ?_)
 cases r1
 ·
  replace hr1 := of_decide_eq_false hr1
  obtain ⟨bt, hbt⟩ := Option.ne_none_iff_exists'.1 hr1
  refine r_ rfl (D_ (c_ rfl (f_ (b_ (a_ (bx_ dG_ rfl (fun v _ h => by exact h.1) rfl) rfl (a_ (g_ rfl) rfl (a_ (de_ (k := r) cq_ bV_ cX_ hT rfl rfl (i_ W_)) rfl (a_ (g_ rfl) rfl (a_ (g_ rfl) rfl ?_)))))))))
  refine a_ (dP_ hbt rfl) rfl (a_ (dO_ (i := i) cQ_ eQ_ rfl rfl (by omega)) rfl (a_ (ds_ (j := j) cS_ au_ rfl rfl (by omega)) rfl (v_ (ei_ (k := r) (i := i) (j := j) aK_ hT hbt (by omega) (by omega) rfl (i_ W_)) rfl fun r2 hr2 => ?_)))
  refine a_ (bf_ rfl) rfl (d_ (c_ rfl ?_))
  cases r2
  ·
   replace hr2 := of_decide_eq_false hr2
   refine p_ rfl (f_ (b_ (a_ (bx_ dG_ rfl (fun v _ h => by exact h.1) rfl) rfl (a_ (g_ rfl) rfl (a_ (de_ (k := r) cq_ bV_ cX_ hT rfl rfl (i_ W_)) rfl (a_ (g_ rfl) rfl (a_ (g_ rfl) rfl (a_ (dP_ hbt rfl) rfl (a_ (dO_ (i := i) cQ_ eQ_ rfl rfl (by omega)) rfl ?_)))))))))
   refine a_ (ds_ (j := j) cS_ au_ rfl rfl (by omega)) rfl (io_ (k := r) (i := i) (j := j) au_ hT hbt (by omega) (by omega) rfl rfl (i_ W_) fun HT1 hT1 => ?_)
   refine d_ (c_ rfl (Y_ (cM_ (w_ h_)) (b_ (a_ (t_ 0 fp_ rfl rfl rfl) rfl (a_ (g_ rfl) rfl (a_ (g_ rfl) rfl (a_ (g_ rfl) rfl (a_ (N_ jn_ rfl rfl) rfl (X_ cR_ gt_ Tryz.zeroValue146 rfl rfl rfl rfl rfl rfl fun b1 => ?_)))))))))
   refine at_ (List.flatMap Itm.cells [(Itm.mk r i j)]) h_ rfl ?_
   refine bu_ (news := List.flatMap Itm.cells [(Itm.mk r i j)]) jA_ hq rfl rfl (fun q => by cases q) (by simp) (i_ bT_) (by rw [cC_ Itm.cells 3 Itm.cells_len]; rfl) (fun v _ h => by exact h.1) (fun u hu => ck_ Itm.cells_one hu) (by simp only [maxLen]; omega) (by omega) rfl fun sv1 Hr1 hr1 => ?_
   have hq1 : bk_ 146 3 sv1 (List.length (Q ++ [(Itm.mk r i j)])) (List.flatMap Itm.cells (Q ++ [(Itm.mk r i j)])) Hr1 := by rw [List.length_append, List.flatMap_append]; exact hr1
   refine Y_ (cM_ (w_ h_)) (eD_ 0 hq1 Tryz.sizeOf142 rfl rfl rfl rfl (d_ (aL_ rfl ?_)))
   exact dL_ Tryz.results123 ⟨(ks, sv1, HT1, Hr1), by exact hT1, by rw [jD_ (by assumption)]; exact hq1, fun _ _ h => h⟩ rfl (j_ h_ (ak_ bT_ aQ_)) (fun _ _ _ => trivial)
  ·
   replace hr2 := of_decide_eq_true hr2
   refine r_ rfl (D_ (aL_ rfl ?_))
   exact dL_ Tryz.results123 ⟨(ks, sv, Hx, Hq), by rw [dF_ (by assumption)]; exact hT, by rw [iN_ (by assumption)]; exact hq, fun _ _ h => h⟩ rfl (j_ h_ (ak_ W_ aQ_)) (fun _ _ _ => trivial)
 ·
  replace hr1 := of_decide_eq_true hr1
  refine p_ rfl (b_ (a_ (bx_ dG_ rfl (fun v _ h => by exact h.1) rfl) rfl (a_ (g_ rfl) rfl (ja_ rfl fun b2 => ?_))))
  refine kQ_ (k := r) cq_ (.inr rfl) bV_ hT hr1 rfl rfl rfl (j_ h_ (i_ W_)) fun HT2 hT2 => ?_
  have hb2 : cT_ (ks ++ [(r, b2)]) r = some b2 := kx_ hr1
  refine d_ (c_ rfl (Y_ (cM_ (w_ h_)) (f_ (b_ (a_ (bx_ dG_ rfl (fun v _ h => by exact h.1) rfl) rfl (a_ (g_ rfl) rfl (a_ (de_ (k := r) cq_ bV_ cX_ hT2 rfl rfl (i_ W_)) rfl (a_ (g_ rfl) rfl (a_ (g_ rfl) rfl ?_)))))))))
  refine a_ (dP_ hb2 rfl) rfl (a_ (dO_ (i := i) cQ_ eQ_ rfl rfl (by omega)) rfl (a_ (ds_ (j := j) cS_ au_ rfl rfl (by omega)) rfl (v_ (ei_ (k := r) (i := i) (j := j) aK_ hT2 hb2 (by omega) (by omega) rfl (i_ W_)) rfl fun r3 hr3 => ?_)))
  refine a_ (bf_ rfl) rfl (d_ (c_ rfl ?_))
  cases r3
  ·
   replace hr3 := of_decide_eq_false hr3
   refine p_ rfl (f_ (b_ (a_ (bx_ dG_ rfl (fun v _ h => by exact h.1) rfl) rfl (a_ (g_ rfl) rfl (a_ (de_ (k := r) cq_ bV_ cX_ hT2 rfl rfl (i_ W_)) rfl (a_ (g_ rfl) rfl (a_ (g_ rfl) rfl (a_ (dP_ hb2 rfl) rfl (a_ (dO_ (i := i) cQ_ eQ_ rfl rfl (by omega)) rfl ?_)))))))))
   refine a_ (ds_ (j := j) cS_ au_ rfl rfl (by omega)) rfl (io_ (k := r) (i := i) (j := j) au_ hT2 hb2 (by omega) (by omega) rfl rfl (i_ W_) fun HT3 hT3 => ?_)
   refine d_ (c_ rfl (Y_ (cM_ (w_ h_)) (b_ (a_ (t_ 0 fp_ rfl rfl rfl) rfl (a_ (g_ rfl) rfl (a_ (g_ rfl) rfl (a_ (g_ rfl) rfl (a_ (N_ jn_ rfl rfl) rfl (X_ cR_ gt_ Tryz.zeroValue146 rfl rfl rfl rfl rfl rfl fun b3 => ?_)))))))))
   refine at_ (List.flatMap Itm.cells [(Itm.mk r i j)]) h_ rfl ?_
   refine bu_ (news := List.flatMap Itm.cells [(Itm.mk r i j)]) jA_ hq rfl rfl (fun q => by cases q) (by simp) (i_ bT_) (by rw [cC_ Itm.cells 3 Itm.cells_len]; rfl) (fun v _ h => by exact h.1) (fun u hu => ck_ Itm.cells_one hu) (by simp only [maxLen]; omega) (by omega) rfl fun sv2 Hr2 hr2 => ?_
   have hq2 : bk_ 146 3 sv2 (List.length (Q ++ [(Itm.mk r i j)])) (List.flatMap Itm.cells (Q ++ [(Itm.mk r i j)])) Hr2 := by rw [List.length_append, List.flatMap_append]; exact hr2
   refine Y_ (cM_ (w_ h_)) (eD_ 0 hq2 Tryz.sizeOf142 rfl rfl rfl rfl (d_ (aL_ rfl ?_)))
   exact dL_ Tryz.results123 ⟨((ks ++ [(r, b2)]), sv2, HT3, Hr2), by exact hT3, by rw [jD_ (by assumption)]; exact hq2, fun k b h => hV_ h⟩ rfl (j_ h_ (ak_ bT_ aQ_)) (fun _ _ _ => trivial)
  ·
   replace hr3 := of_decide_eq_true hr3
   refine r_ rfl (D_ (aL_ rfl ?_))
   exact dL_ Tryz.results123 ⟨((ks ++ [(r, b2)]), sv, HT2, Hq), by rw [dF_ (by assumption)]; exact hT2, by rw [iN_ (by assumption)]; exact hq, fun k b h => hV_ h⟩ rfl (j_ h_ (ak_ W_ aQ_)) (fun _ _ _ => trivial)
end Go.Proofs.YtoafjmalfclpoaaGreatDoor
