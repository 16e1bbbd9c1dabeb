/-
  Part of the proof of the law NormalChains over this seat: the small logic, the data, the contracts of functions (no condition).
-/
import Derived.Test.YtoafjmalfclpoaaGreatDoorQNormalChains11
import Derived.Test.YtoafjmalfclpoaaGreatDoorQNormalChains9
import Derived.Test.YtoafjmalfclpoaaGreatDoorQNormalChains8
set_option linter.unusedVariables false
set_option linter.unusedSimpArgs false
set_option linter.unusedSectionVars false
namespace Go.Proofs.YtoafjmalfclpoaaGreatDoor
open Go Go.Sx Go.Proofs
attribute [local irreducible] Code.wp wpList wpAnyH
open Go.Vs
theorem popRow {P : Program} {e : TypeId} {sz n : Nat} {sv : Value} {xs : List Value} {Hr : Hp} (hr : bk_ e sz sv (n + 1) xs Hr) : ∃ sv', bk_ e sz sv' n (xs.take (n * sz)) Hr ∧
    ∀ {N : Nf} {fr : Fr} {H : Hp} {Γ : List Fct} {ty t : TypeId} {x y : Operand}, (∀ w, (underlying t).run P w = .ok (.slice e) w) → (∀ w, (sizeOf e).run P w = .ok sz w) → Fr.ev fr x = some sv → Fr.ev fr y = some (.int .i64 (n : Int)) → Yld P N fr H Γ (.slice t x none (some y) none) ty sv' := by
  obtain ⟨hl, ⟨_, h0, _⟩ | ⟨g, cap, cur, rfl, rfl, hn, hm, hc, hx⟩⟩ := hr
  · omega
  · refine ⟨.slice (some ⟨g, 0, none⟩) n cap, ⟨?_, .inr ⟨g, cap, cur, rfl, rfl, by omega, hm, hc, ?_⟩⟩, fun hu hs hx hy => ?_⟩
    · rw [List.length_take, hl, Nat.add_mul]; omega
    · rw [← hx, List.take_take, Nat.min_eq_left (by rw [Nat.add_mul]; omega)]
    · refine bB_ (dc_ (i := 0) (j := n) (kl := .i64) (kh := .i64) hu hs hx rfl hy (Nat.zero_le _) (by omega)) ?_
      unfold sad
      rw [if_neg (by omega)]
      simp [cu_]
theorem dA_.none {tt mb : Nat} {ks : List (Str × Nat)} {T : List Itm} {H : Hp} (h : dA_ tt mb ks T H) {k : Str} (hk : cT_ ks k = none) : ∀ z ∈ T, z.r ≠ k := fun z hz e => by
  obtain ⟨_, _, _, hE⟩ := h
  exact eX_ hk (e ▸ hE.all z hz)
theorem iE_ {R : List Rul} {k : Str} {y : Rul} : y ∈ lat (List.map (fun x => (Rul.f x, x)) R) k ↔ y ∈ R ∧ y.f = k := by
  rw [gl_, List.mem_map]
  constructor
  · rintro ⟨z, hz, e⟩
    obtain ⟨rfl, rfl⟩ := Prod.mk.inj e
    exact ⟨hz, rfl⟩
  · rintro ⟨h, rfl⟩; exact ⟨y, h, rfl⟩
theorem iD_ {R : List Rul} {k : Str} {y : Rul} : y ∈ lat (List.map (fun x => (Rul.s x, x)) R) k ↔ y ∈ R ∧ y.s = k := by
  rw [gl_, List.mem_map]
  constructor
  · rintro ⟨z, hz, e⟩
    obtain ⟨rfl, rfl⟩ := Prod.mk.inj e
    exact ⟨hz, rfl⟩
  · rintro ⟨h, rfl⟩; exact ⟨y, h, rfl⟩
def fs_ (ws : List Str) (R : List Rul) : List Str := ws ++ R.map Rul.r
theorem kw_ {ws : List Str} {R : List Rul} (hw : ws.length ≤ 64) (hR : R.length ≤ 400) {n : Nat} (hn : n ≤ 64) : (fs_ ws R).length * ((n + 1) * (n + 1)) ≤ 2000000 := by
  unfold fs_
  rw [List.length_append, List.length_map]
  have h1 : (n + 1) * (n + 1) ≤ 65 * 65 := Nat.mul_le_mul (by omega) (by omega)
  exact Nat.le_trans (Nat.mul_le_mul (show ws.length + R.length ≤ 464 by omega) h1) (by decide)
theorem Stg.small {ws : List Str} {R : List Rul} {n : Nat} {x : Itm} {T0 Q0 T Q : List Itm} (h : Stg (fs_ ws R) n x T0 Q0 T Q) (hw : ws.length ≤ 64) (hR : R.length ≤ 400) (hn : n ≤ 64) : Q.length ≤ 2000000 ∧ T.length ≤ 2000000 := by
  have h1 := kc_ h.nd h.bd
  have h2 := kw_ hw hR hn
  have h3 := h.qnd.length_le_of_subset h.sub
  omega
theorem unvI_w {ws : List Str} {R : List Rul} {i : Nat} {r : Str} (h : ws[i]? = some r) : r ∈ fs_ ws R := List.mem_append_left _ (List.mem_of_getElem? h)
theorem kv_ {ws : List Str} {R : List Rul} {y : Rul} (h : y ∈ R) : y.r ∈ fs_ ws R := List.mem_append_right _ (List.mem_map_of_mem h)
structure IniI (ws : List Str) (R : List Rul) (i : Nat) (T : List Itm) : Prop where
  nd : T.Nodup
  bd : ∀ y ∈ T, y.In (fs_ ws R) ws.length
  w : ∀ j r, j < i → ws[j]? = some r → (⟨r, j, j + 1⟩ : Itm) ∈ T
  len : T.length ≤ i
theorem IniI.nil {ws : List Str} {R : List Rul} : IniI ws R 0 [] := ⟨List.nodup_nil, by simp, fun j r h => by omega, by simp⟩
theorem IniI.add {ws : List Str} {R : List Rul} {i : Nat} {T : List Itm} {r : Str} (h : IniI ws R i T) (hr : ws[i]? = some r) : IniI ws R (i + 1) (cP_ ⟨r, i, i + 1⟩ T) := by
  have hl := (List.getElem?_eq_some_iff.1 hr).1
  refine ⟨jE_ h.nd, fun y hy => ?_, fun j q hj hq => ?_, by have := cO_ (y := (⟨r, i, i + 1⟩ : Itm)) (l := T); have := h.len; omega⟩
  · rcases aB_.1 hy with hy | rfl
    · exact h.bd y hy
    · exact ⟨unvI_w hr, by dsimp only; omega, by dsimp only; omega⟩
  · rcases Nat.lt_or_ge j i with g | g
    · exact aB_.2 (.inl (h.w j q g hq))
    · obtain rfl : j = i := by omega
      rw [hr] at hq
      simp only [Option.some.injEq] at hq
      subst hq
      exact aB_.2 (.inr rfl)
structure WrdH where
  mb : Nat
  ks : List (Str × Nat)
  R : List Rul
  T : List Itm
  H : Hp
structure WrdOk (l : List Ax) (ws : List Str) (y : WrdH) : Prop where
  tab : dA_ 144 y.mb y.ks y.T y.H
  all : ∀ x ∈ l, ∀ i, 1 ≤ i → i < x.roles.length → x.rul i ∈ y.R
  rc : Rec y.R (fs_ ws y.R) ws.length y.T []
  w : ∀ j r, ws[j]? = some r → (⟨r, j, j + 1⟩ : Itm) ∈ y.T
theorem ie_ (l : List Ax) (ad : Option Addr) (cap : Nat) (hok : ∀ x ∈ l, x.ok) (hC : ∀ x ∈ l, x.check = 0) (hK : ∀ x ∈ l, x.kind = 6) (hll : l.length ≤ 100) (ws : List Str) (wad : Option Addr) (wcap : Nat) (hw : ws.length ≤ 64) : Tri Tryz.prog 66 #[.slice ad (List.length l) cap, .slice wad (List.length ws) wcap] [] [ev_ ad l, bQ_ wad (List.flatMap cn_ ws), bH_] (fun y : {y : WrdH // WrdOk l ws y} => .map (some y.1.mb)) (fun y => y.1.H) (fun _ => []) := by
 refine M_ Tryz.func66 rfl rfl Tryz.ntmps66 rfl fun v0 => ?_
 refine f_ (b_ (a_ (e_ rfl) rfl (d_ (c_ rfl (f_ (b_ (a_ (g_ rfl) rfl (A_ (hB_ l ad cap hok hC hK (by omega)) rfl S_ (fun v _ h => by exact ⟨h.1, h.2.2.1, trivial⟩) rfl fun ⟨⟨R, gba, gb1, gb2, HM1, HM2⟩, hA, hRl, hm1, hm2⟩ => ?_))))))))
 dsimp only
 simp only [List.cons_append, List.append_assoc, List.append_nil]
 dsimp only at hA hRl hm1 hm2
 refine it_ cq_ hm1 (i_ W_) fun a1 => ?_
 refine it_ cq_ hm2 bh_ fun a2 => ?_
 refine ep_ 0 rfl ?_
 refine an_ Tryz.zeroValue140 rfl fun b1 => ?_
 refine ah_ 0 kD_ rfl rfl rfl rfl rfl rfl (d_ (c_ rfl (f_ (b_ (dh_ rfl fun b2 => ?_)))))
 refine an_ Tryz.zeroValue104 rfl fun b3 => ?_
 refine ah_ 0 Tryz.sizeOf104 rfl rfl rfl rfl rfl rfl (d_ (c_ rfl (f_ (b_ (an_ Tryz.zeroValue142 rfl fun b4 => ?_)))))
 refine d_ (c_ rfl (f_ (b_ (a_ (fr_ rfl rfl) rfl (a_ (e_ rfl) rfl (d_ (c_ rfl (f_ (b_ ?_)))))))))
 refine a_ (g_ rfl) rfl (a_ (ar_ J_ rfl) rfl (a_ (e_ rfl) rfl (d_ (c_ rfl (f_ (f_ (b_ (a_ (g_ rfl) rfl (a_ (ar_ J_ rfl) rfl ?_)))))))))
 refine a_ (g_ rfl) rfl (d_ (c_ rfl (T_ (ep_ 1 rfl ?_))))
 refine ch_ (ι := {y : Nat × List (Str × Nat) × List Itm × List Itm × Hp × Value × Hp // dA_ 144 b2 y.2.1 y.2.2.1 y.2.2.2.2.1 ∧ y.1 ≤ List.length ws ∧ IniI ws R y.1 y.2.2.1 ∧ y.2.2.2.1 = y.2.2.1 ∧ bk_ 146 3 y.2.2.2.2.2.1 (List.length y.2.2.2.1) (List.flatMap Itm.cells y.2.2.2.1) y.2.2.2.2.2.2}) (fun y => [(5, zp_ b1 0), (6, zp_ b3 0), (7, zp_ b4 0), (8, .func (.func 123) #[] #[zp_ b3 0, zp_ b4 0]), (9, .int .i64 (List.length ws : Int)), (32, .slice wad (List.length ws) wcap), (33, .int .i64 (List.length ws : Int)), (34, .int .i64 (y.1.1 : Int))]) (fun y => ((b1, .cells #[.map (some gba), .map (some gb1), .map (some gb2), .slice none 0 0] 140 (0, 0)) :: ((b4, .cells #[y.1.2.2.2.2.2.1] 142 (0, 0)) :: (y.1.2.2.2.2.1 ++ y.1.2.2.2.2.2.2)))) (fun y => [dp_ b3 (.cells #[.map (some b2)] 104 (0, 0)), dp_ gba (.map #[] 0), mlF Tryz.prog 9 str Rul.cells gb2 (List.map (fun x => (Rul.s x, x)) R) a2, mlF Tryz.prog 9 str Rul.cells gb1 (List.map (fun x => (Rul.f x, x)) R) a1, ev_ ad l, bQ_ wad (List.flatMap cn_ ws), bH_]) (fun y => List.length ws - y.1.1) ⟨((0 : Nat), [], [], ([] : List Itm), [(b2, .map #[] 0)], (.slice none 0 0), []), (dA_.nil 144 b2 0), by simp, IniI.nil, rfl, (bk_.nil _ _)⟩ ⟨rfl, rfl, rfl, rfl, rfl, rfl, rfl, rfl, trivial⟩ (j_ (i_ (i_ h_)) (j_ h_ h_)) (fun _ _ h => h) ?_
 rintro ⟨⟨i, ks0, T0, Q0, HT0, sv_Q, H_Q⟩, hT0, hi, hI, hQT, hr_Q⟩
 dsimp only at hT0 hi hI hQT hr_Q ⊢
 refine f_ (b_ (v_ (aN_ rfl rfl) rfl fun r1 hr1 => ?_))
 refine d_ (c_ rfl (f_ ?_))
 cases r1
 ·
  replace hr1 := of_decide_eq_false hr1
  refine r_ rfl (aU_ rfl (c_ rfl (f_ (f_ (b_ (a_ (m_ aC_ rfl rfl rfl bp_) rfl (a_ (t_ 0 bS_ rfl rfl rfl) rfl (a_ (ar_ J_ rfl) rfl (a_ (g_ rfl) rfl ?_)))))))))
  refine d_ (c_ rfl (T_ ?_))
  obtain rfl : i = List.length ws := by omega
  refine ch_ (ι := {y : Nat × Value × Hp // bk_ 146 3 y.2.1 (List.length Q0) (List.flatMap Itm.cells Q0) y.2.2}) (fun y => [(5, zp_ b1 0), (6, zp_ b3 0), (7, zp_ b4 0), (8, .func (.func 123) #[] #[zp_ b3 0, zp_ b4 0]), (9, .int .i64 (List.length ws : Int)), (47, .slice none 0 0), (48, .int .i64 0), (49, .int .i64 0)]) (fun y => ((b1, .cells #[.map (some gba), .map (some gb1), .map (some gb2), .slice none 0 0] 140 (0, 0)) :: ((b4, .cells #[y.1.2.1] 142 (0, 0)) :: (HT0 ++ y.1.2.2)))) (fun y => [dp_ b3 (.cells #[.map (some b2)] 104 (0, 0)), dp_ gba (.map #[] 0), mlF Tryz.prog 9 str Rul.cells gb2 (List.map (fun x => (Rul.s x, x)) R) a2, mlF Tryz.prog 9 str Rul.cells gb1 (List.map (fun x => (Rul.f x, x)) R) a1, ev_ ad l, bQ_ wad (List.flatMap cn_ ws), bH_]) (fun y => y.1.1) ⟨((0 : Nat), sv_Q, H_Q), hr_Q⟩ ⟨rfl, rfl, rfl, rfl, rfl, rfl, rfl, rfl, trivial⟩ (j_ h_ (j_ h_ (ak_ W_ aQ_))) (fun _ _ h => h) ?_
  rintro ⟨⟨u0, sv_Q, H_Q⟩, hr_Q⟩
  dsimp only at hr_Q ⊢
  refine f_ (b_ (a_ (bB_ (aN_ rfl rfl) (show _ = Value.bool false from congrArg Value.bool (by decide))) rfl (d_ (c_ rfl (f_ (r_ rfl (aU_ rfl (c_ rfl (f_ ?_)))))))))
  refine T_ ?_
  have hRR : R.length ≤ 400 := by omega
  refine ch_ (ι := {y : List (Str × Nat) × List Itm × List Itm × Hp × Value × Hp // dA_ 144 b2 y.1 y.2.1 y.2.2.2.1 ∧ Rec R (fs_ ws R) (List.length ws) y.2.1 y.2.2.1 ∧ (∀ j r, ws[j]? = some r → (⟨r, j, j + 1⟩ : Itm) ∈ y.2.1) ∧ bk_ 146 3 y.2.2.2.2.1 (List.length y.2.2.1) (List.flatMap Itm.cells y.2.2.1) y.2.2.2.2.2}) (fun y => [(5, zp_ b1 0), (6, zp_ b3 0), (7, zp_ b4 0), (8, .func (.func 123) #[] #[zp_ b3 0, zp_ b4 0]), (9, .int .i64 (List.length ws : Int))]) (fun y => ((b1, .cells #[.map (some gba), .map (some gb1), .map (some gb2), .slice none 0 0] 140 (0, 0)) :: ((b4, .cells #[y.1.2.2.2.2.1] 142 (0, 0)) :: (y.1.2.2.2.1 ++ y.1.2.2.2.2.2)))) (fun y => [dp_ b3 (.cells #[.map (some b2)] 104 (0, 0)), dp_ gba (.map #[] 0), mlF Tryz.prog 9 str Rul.cells gb2 (List.map (fun x => (Rul.s x, x)) R) a2, mlF Tryz.prog 9 str Rul.cells gb1 (List.map (fun x => (Rul.f x, x)) R) a1, ev_ ad l, bQ_ wad (List.flatMap cn_ ws), bH_]) (fun y => muI 2000000 y.1.2.1 y.1.2.2.1) ⟨(ks0, T0, Q0, HT0, sv_Q, H_Q), hT0, by rw [hQT]; exact Rec.init hI.nd hI.bd, fun j r hj => hI.w j r (List.getElem?_eq_some_iff.1 hj).1 hj, hr_Q⟩ ⟨rfl, rfl, rfl, rfl, rfl, trivial⟩ (j_ h_ (j_ h_ (ak_ W_ aQ_))) (fun _ _ h => h) ?_
  rintro ⟨⟨ksw, Tw, Qw, HTw, sv_Q, H_Q⟩, hTw, hR, hW, hr_Q⟩
  dsimp only at hTw hR hW hr_Q ⊢
  refine f_ (f_ (b_ (a_ (t_ 1 fp_ rfl rfl rfl) rfl (a_ (ff_ hr_Q cR_ rfl) rfl (v_ (ce_ rfl rfl) rfl fun r2 hr2 => ?_)))))
  refine d_ (c_ rfl ?_)
  cases r2
  ·
   replace hr2 := of_decide_eq_false hr2
   refine r_ rfl (aU_ rfl (c_ rfl (f_ (b_ (a_ (bx_ dG_ rfl (fun v _ h => by exact h.1) rfl) rfl (a_ (e_ rfl) rfl (d_ (c_ rfl (B_ ?_)))))))))
   obtain rfl : Qw = [] := List.eq_nil_of_length_eq_zero (by omega)
   exact aj_ Tryz.results66 ⟨⟨b2, ksw, R, Tw, HTw⟩, ⟨hTw, hA, hR, hW⟩⟩ rfl (i_ (i_ W_)) (fun _ _ _ => trivial)
  ·
   replace hr2 := of_decide_eq_true hr2
   obtain ⟨Qp, x0, rfl⟩ : ∃ Qp x0, Qw = Qp ++ [x0] := by rcases List.eq_nil_or_concat Qw with h | ⟨a, b, h⟩; subst h; simp at *; exact ⟨a, b, by simpa using h⟩
   have hxl : List.length (Qp ++ [x0]) = List.length Qp + 1 := by simp
   have hx0 : (Qp ++ [x0])[List.length Qp]? = some x0 := by simp
   have hsm := (Stg.small hR.pop hw hRR hw)
   refine p_ rfl (D_ (c_ rfl (T_ (f_ (b_ (a_ (t_ 1 fp_ rfl rfl rfl) rfl (a_ (t_ 1 fp_ rfl rfl rfl) rfl (a_ (ff_ hr_Q cR_ rfl) rfl (a_ (bB_ (R_ rfl rfl rfl (aq_ (by simp only [List.length_append, List.length_cons, List.length_nil]; omega) (by simp only [List.length_append, List.length_cons, List.length_nil]; omega))) (show _ = Value.int .i64 (List.length Qp : Int) from congrArg _ (by simp only [List.length_append, List.length_cons, List.length_nil]; omega))) rfl ?_)))))))))
   refine a_ (jH_ hr_Q cR_ gt_ rfl rfl (by omega) (by omega)) rfl (a_ (jG_ hr_Q (i_ (i_ bT_)) Tryz.isAgg146 gt_ rfl (Itm.cells_len _) (by decide) (ao_ Itm.cells_len hx0)) rfl (an_ Tryz.zeroValue146 rfl fun b5 => ?_))
   refine ah_ 0 gt_ rfl rfl rfl rfl rfl rfl (d_ (c_ rfl (f_ (b_ (a_ (t_ 2 fp_ rfl rfl rfl) rfl (a_ (t_ 2 fp_ rfl rfl rfl) rfl (a_ (ff_ hr_Q cR_ rfl) rfl (a_ (bB_ (R_ rfl rfl rfl (aq_ (by simp only [List.length_append, List.length_cons, List.length_nil]; omega) (by simp only [List.length_append, List.length_cons, List.length_nil]; omega))) (show _ = Value.int .i64 (List.length Qp : Int) from congrArg _ (by simp only [List.length_append, List.length_cons, List.length_nil]; omega))) rfl ?_))))))))
   obtain ⟨sv9, hr9, hy9⟩ := popRow (P := Tryz.prog) (n := List.length Qp) (by have q := hr_Q; rw [List.length_append] at q; exact q)
   have hr8 : bk_ 146 3 sv9 (List.length Qp) (List.flatMap Itm.cells Qp) H_Q := by have q := hr9; rw [hL_ Itm.cells 3 Itm.cells_len, List.take_left] at q; exact q
   refine a_ (hy9 cR_ gt_ rfl rfl) rfl (eD_ 2 hr8 Tryz.sizeOf142 rfl rfl rfl rfl (d_ (c_ rfl (f_ (f_ (b_ (a_ (m_ aC_ rfl rfl rfl Tryz.sizeOf137) rfl (a_ (t_ 1 Tryz.isAgg137 rfl rfl rfl) rfl (a_ (m_ bI_ rfl rfl rfl z_) rfl ?_)))))))))
   refine a_ (t_ 0 E_ rfl rfl rfl) rfl (a_ (dl_ Tryz.runUnderlying137 Tryz.zeroValue39 rfl rfl (fun v _ h => (by exact h.2.1 : (dp_ gba (.map #[] 0)).p v).2) (cq_.ok (Itm.r x0)) (cq_.nf (Itm.r x0) [] [] rfl (by simp))) rfl (a_ (ar_ J_ rfl) rfl (a_ (g_ rfl) rfl (d_ (c_ rfl (T_ ?_))))))
   refine ch_ (ι := {y : Nat × Value × Hp // bk_ 146 3 y.2.1 (List.length Qp) (List.flatMap Itm.cells Qp) y.2.2}) (fun y => [(5, zp_ b1 0), (6, zp_ b3 0), (7, zp_ b4 0), (8, .func (.func 123) #[] #[zp_ b3 0, zp_ b4 0]), (9, .int .i64 (List.length ws : Int)), (15, zp_ b5 0), (82, .slice none 0 0), (83, .int .i64 0), (84, .int .i64 0)]) (fun y => ((b5, .cells #[str (Itm.r x0), .int .i64 (Itm.i x0 : Int), .int .i64 (Itm.j x0 : Int)] 146 (0, 0)) :: ((b1, .cells #[.map (some gba), .map (some gb1), .map (some gb2), .slice none 0 0] 140 (0, 0)) :: ((b4, .cells #[y.1.2.1] 142 (0, 0)) :: (HTw ++ y.1.2.2))))) (fun y => [dp_ b3 (.cells #[.map (some b2)] 104 (0, 0)), dp_ gba (.map #[] 0), mlF Tryz.prog 9 str Rul.cells gb2 (List.map (fun x => (Rul.s x, x)) R) a2, mlF Tryz.prog 9 str Rul.cells gb1 (List.map (fun x => (Rul.f x, x)) R) a1, ev_ ad l, bQ_ wad (List.flatMap cn_ ws), bH_]) (fun y => y.1.1) ⟨((0 : Nat), sv9, H_Q), hr8⟩ ⟨rfl, rfl, rfl, rfl, rfl, rfl, rfl, rfl, rfl, trivial⟩ (j_ h_ (j_ h_ (j_ h_ (ak_ W_ aQ_)))) (fun _ _ h => h) ?_
   rintro ⟨⟨u0, sv_Q, H_Q⟩, hr_Q⟩
   dsimp only at hr_Q ⊢
   refine f_ (b_ (a_ (bB_ (aN_ rfl rfl) (show _ = Value.bool false from congrArg Value.bool (by decide))) rfl (d_ (c_ rfl (f_ (r_ rfl (aU_ rfl (c_ rfl (f_ ?_)))))))))
   refine f_ (b_ (a_ (m_ aC_ rfl rfl rfl bD_) rfl (a_ (t_ 1 bX_ rfl rfl rfl) rfl (a_ (m_ bI_ rfl rfl rfl z_) rfl (a_ (t_ 0 E_ rfl rfl rfl) rfl (a_ (gX_ (k := (Itm.r x0)) (adr := a1) cq_ ac_ bl_ rfl rfl (fun v _ h => by exact h.2.2.2.1)) rfl (a_ (ar_ aG_ rfl) rfl (a_ (g_ rfl) rfl (d_ ?_)))))))))
   refine c_ rfl (T_ ?_)
   have hlx1 : List.length (lat (List.map (fun x => (Rul.f x, x)) R) (Itm.r x0)) ≤ 400 := by have q := eb_ (List.map (fun x => (Rul.f x, x)) R) (Itm.r x0); rw [List.length_map] at q; omega
   refine ch_ (ι := {y : Nat × List (Str × Nat) × List Itm × List Itm × Hp × Value × Hp // dA_ 144 b2 y.2.1 y.2.2.1 y.2.2.2.2.1 ∧ y.1 ≤ List.length (lat (List.map (fun x => (Rul.f x, x)) R) (Itm.r x0)) ∧ Stg (fs_ ws R) (List.length ws) x0 Tw Qp y.2.2.1 y.2.2.2.1 ∧ Pr1 (List.length ws) x0 Tw (List.take y.1 (lat (List.map (fun x => (Rul.f x, x)) R) (Itm.r x0))) y.2.2.1 ∧ bk_ 146 3 y.2.2.2.2.2.1 (List.length y.2.2.2.1) (List.flatMap Itm.cells y.2.2.2.1) y.2.2.2.2.2.2}) (fun y => [(5, zp_ b1 0), (6, zp_ b3 0), (7, zp_ b4 0), (8, .func (.func 123) #[] #[zp_ b3 0, zp_ b4 0]), (9, .int .i64 (List.length ws : Int)), (15, zp_ b5 0), (100, .slice (Prod.fst (a1 (Itm.r x0))) (List.length (lat (List.map (fun x => (Rul.f x, x)) R) (Itm.r x0))) (Prod.snd (a1 (Itm.r x0)))), (101, .int .i64 (List.length (lat (List.map (fun x => (Rul.f x, x)) R) (Itm.r x0)) : Int)), (102, .int .i64 (y.1.1 : Int))]) (fun y => ((b1, .cells #[.map (some gba), .map (some gb1), .map (some gb2), .slice none 0 0] 140 (0, 0)) :: ((b5, .cells #[str (Itm.r x0), .int .i64 (Itm.i x0 : Int), .int .i64 (Itm.j x0 : Int)] 146 (0, 0)) :: ((b4, .cells #[y.1.2.2.2.2.2.1] 142 (0, 0)) :: (y.1.2.2.2.2.1 ++ y.1.2.2.2.2.2.2))))) (fun y => [dp_ b3 (.cells #[.map (some b2)] 104 (0, 0)), dp_ gba (.map #[] 0), mlF Tryz.prog 9 str Rul.cells gb2 (List.map (fun x => (Rul.s x, x)) R) a2, mlF Tryz.prog 9 str Rul.cells gb1 (List.map (fun x => (Rul.f x, x)) R) a1, ev_ ad l, bQ_ wad (List.flatMap cn_ ws), bH_]) (fun y => List.length (lat (List.map (fun x => (Rul.f x, x)) R) (Itm.r x0)) - y.1.1) ⟨((0 : Nat), ksw, Tw, Qp, HTw, sv_Q, H_Q), hTw, by simp, hR.pop, fun y hy => by simp at hy, hr_Q⟩ ⟨rfl, rfl, rfl, rfl, rfl, rfl, rfl, rfl, rfl, trivial⟩ (j_ (i_ h_) (j_ h_ (j_ h_ (ak_ W_ aQ_)))) (fun _ _ h => h) ?_
   rintro ⟨⟨k1, ks1, T1, Q1, HT1, sv_Q, H_Q⟩, hT1, hk1, hS1, hP1, hr_Q⟩
   dsimp only at hT1 hk1 hS1 hP1 hr_Q ⊢
   refine f_ (b_ (v_ (aN_ rfl rfl) rfl fun r3 hr3 => ?_))
   refine d_ (c_ rfl (f_ ?_))
   cases r3
   ·
    replace hr3 := of_decide_eq_false hr3
    refine r_ rfl (aU_ rfl (c_ rfl (f_ (b_ (a_ (m_ aC_ rfl rfl rfl bD_) rfl (a_ (t_ 0 bX_ rfl rfl rfl) rfl (a_ (m_ bI_ rfl rfl rfl z_) rfl (a_ (t_ 1 E_ rfl rfl rfl) rfl (a_ (gX_ (k := (Itm.r x0)) (adr := a2) cq_ ac_ bl_ rfl rfl (fun v _ h => by exact h.2.2.1)) rfl ?_)))))))))
    refine a_ (ar_ aG_ rfl) rfl (a_ (g_ rfl) rfl (d_ (c_ rfl (T_ ?_))))
    have hlx2 : List.length (lat (List.map (fun x => (Rul.s x, x)) R) (Itm.r x0)) ≤ 400 := by have q := eb_ (List.map (fun x => (Rul.s x, x)) R) (Itm.r x0); rw [List.length_map] at q; omega
    refine ch_ (ι := {y : Nat × List (Str × Nat) × List Itm × List Itm × Hp × Value × Hp // dA_ 144 b2 y.2.1 y.2.2.1 y.2.2.2.2.1 ∧ y.1 ≤ List.length (lat (List.map (fun x => (Rul.s x, x)) R) (Itm.r x0)) ∧ Stg (fs_ ws R) (List.length ws) x0 Tw Qp y.2.2.1 y.2.2.2.1 ∧ Pr2 x0 Tw (List.take y.1 (lat (List.map (fun x => (Rul.s x, x)) R) (Itm.r x0))) y.2.2.1 ∧ (∀ z ∈ T1, z ∈ y.2.2.1) ∧ bk_ 146 3 y.2.2.2.2.2.1 (List.length y.2.2.2.1) (List.flatMap Itm.cells y.2.2.2.1) y.2.2.2.2.2.2}) (fun y => [(5, zp_ b1 0), (6, zp_ b3 0), (7, zp_ b4 0), (8, .func (.func 123) #[] #[zp_ b3 0, zp_ b4 0]), (9, .int .i64 (List.length ws : Int)), (15, zp_ b5 0), (139, .slice (Prod.fst (a2 (Itm.r x0))) (List.length (lat (List.map (fun x => (Rul.s x, x)) R) (Itm.r x0))) (Prod.snd (a2 (Itm.r x0)))), (140, .int .i64 (List.length (lat (List.map (fun x => (Rul.s x, x)) R) (Itm.r x0)) : Int)), (141, .int .i64 (y.1.1 : Int))]) (fun y => ((b1, .cells #[.map (some gba), .map (some gb1), .map (some gb2), .slice none 0 0] 140 (0, 0)) :: ((b5, .cells #[str (Itm.r x0), .int .i64 (Itm.i x0 : Int), .int .i64 (Itm.j x0 : Int)] 146 (0, 0)) :: ((b4, .cells #[y.1.2.2.2.2.2.1] 142 (0, 0)) :: (y.1.2.2.2.2.1 ++ y.1.2.2.2.2.2.2))))) (fun y => [dp_ b3 (.cells #[.map (some b2)] 104 (0, 0)), dp_ gba (.map #[] 0), mlF Tryz.prog 9 str Rul.cells gb2 (List.map (fun x => (Rul.s x, x)) R) a2, mlF Tryz.prog 9 str Rul.cells gb1 (List.map (fun x => (Rul.f x, x)) R) a1, ev_ ad l, bQ_ wad (List.flatMap cn_ ws), bH_]) (fun y => List.length (lat (List.map (fun x => (Rul.s x, x)) R) (Itm.r x0)) - y.1.1) ⟨((0 : Nat), ks1, T1, Q1, HT1, sv_Q, H_Q), hT1, by simp, hS1, fun y hy => by simp at hy, fun z hz => hz, hr_Q⟩ ⟨rfl, rfl, rfl, rfl, rfl, rfl, rfl, rfl, rfl, trivial⟩ (j_ h_ (j_ h_ (j_ h_ (ak_ W_ aQ_)))) (fun _ _ h => h) ?_
    rintro ⟨⟨k2, ks2, T2, Q2, HT2, sv_Q, H_Q⟩, hT2, hk2, hS2, hP2, hG2, hr_Q⟩
    dsimp only at hT2 hk2 hS2 hP2 hG2 hr_Q ⊢
    refine f_ (b_ (v_ (aN_ rfl rfl) rfl fun r4 hr4 => ?_))
    refine d_ (c_ rfl (f_ ?_))
    cases r4
    ·
     replace hr4 := of_decide_eq_false hr4
     refine r_ rfl (aU_ rfl (o_ rfl ?_))
     exact av_ ⟨(ks2, T2, Q2, HT2, sv_Q, H_Q), hT2, Stg.done hR hS2 (fun y hy e => iE_.2 ⟨hy, e⟩) (fun y hy e => iD_.2 ⟨hy, e⟩) (by have q := hP1; rw [List.take_of_length_le (by omega)] at q; exact q.mono hG2) (by have q := hP2; rw [List.take_of_length_le (by omega)] at q; exact q), fun j r hj => hS2.old _ (hW j r hj), hr_Q⟩ (by dsimp only; exact hS2.mu hR.nd (Stg.small hS2 hw hRR hw).2) ⟨rfl, rfl, rfl, rfl, rfl, trivial⟩ (j_ h_ (j_ (i_ h_) (ak_ (i_ W_) bh_))) (fun _ _ h => h)
    ·
     replace hr4 := of_decide_eq_true hr4
     have hly2 : k2 < List.length (lat (List.map (fun x => (Rul.s x, x)) R) (Itm.r x0)) := by omega
     obtain ⟨y2, hy2⟩ : ∃ e0, (lat (List.map (fun x => (Rul.s x, x)) R) (Itm.r x0))[k2]? = some e0 := ⟨_, List.getElem?_eq_getElem hly2⟩
     have hmy2 : y2 ∈ (lat (List.map (fun x => (Rul.s x, x)) R) (Itm.r x0)) := List.mem_of_getElem? hy2
     refine p_ rfl (D_ (c_ rfl (f_ (T_ (f_ (b_ (a_ (am_ aG_ as_ rfl rfl (fun v _ h => aS_ (n := 3) Rul.cells_len (by decide) (by exact (gk_ h.2.2.1 (Itm.r x0))) hy2) (by omega) (by first | omega | (simp; done))) rfl (a_ (aH_ (ad := (Prod.fst (a2 (Itm.r x0)))) (us := Rul.cells y2) cx_ as_ rfl (fun v _ h => by exact (gk_ h.2.2.1 (Itm.r x0))) (Rul.cells_len _) (ao_ Rul.cells_len hy2)) rfl (an_ aP_ rfl fun b6 => ?_)))))))))
     refine ah_ 0 as_ rfl rfl rfl rfl rfl rfl (d_ (c_ rfl (f_ (b_ (a_ (bx_ dG_ rfl (fun v _ h => by exact h.1) rfl) rfl (a_ (m_ ax_ rfl rfl rfl z_) rfl (a_ (t_ 0 E_ rfl rfl rfl) rfl (a_ (de_ (k := (Rul.f y2)) cq_ bV_ cX_ hT2 rfl rfl (i_ (i_ (i_ (i_ W_))))) rfl (a_ (e_ rfl) rfl ?_)))))))))
     refine d_ (c_ rfl (f_ (b_ (a_ (g_ rfl) rfl (v_ (fO_ Tryz.underlying103 rfl rfl) rfl fun r5 hr5 => ?_)))))
     refine d_ (c_ rfl ?_)
     cases r5
     ·
      refine r_ rfl (D_ (c_ rfl (b_ (a_ (R_ rfl rfl rfl (aq_ (by omega) (by omega))) rfl (a_ (g_ rfl) rfl (d_ (o_ rfl ?_)))))))
      exact av_ ⟨(k2 + 1, ks2, T2, Q2, HT2, sv_Q, H_Q), hT2, hly2, hS2, Pr2.step hP2 hy2 (fun _ h => h) (fun e h1 h3 => absurd rfl (dA_.none hT2 (by simpa using hr5) _ (hS2.old _ h3))), hG2, hr_Q⟩ (by dsimp only; omega) ⟨rfl, rfl, rfl, rfl, rfl, rfl, rfl, rfl, rfl, trivial⟩ (j_ (i_ h_) (j_ (i_ h_) (j_ (i_ h_) (ak_ (i_ W_) bh_)))) (fun _ _ h => h)
     ·
      obtain ⟨bk1, hbk1⟩ := Option.ne_none_iff_exists'.1 (show cT_ ks2 (Rul.f y2) ≠ none from by simpa using hr5)
      refine p_ rfl (f_ (b_ (a_ (e_ rfl) rfl (d_ (c_ rfl (T_ ?_))))))
      have hix : x0.i ≤ x0.j ∧ x0.j ≤ List.length ws := (hS2.bd x0 hS2.xT).2
      have hry : y2.r ∈ fs_ ws R := kv_ (iD_.1 hmy2).1
      refine ch_ (ι := {y : Nat × List (Str × Nat) × List Itm × List Itm × Hp × Value × Hp // dA_ 144 b2 y.2.1 y.2.2.1 y.2.2.2.2.1 ∧ Stg (fs_ ws R) (List.length ws) x0 Tw Qp y.2.2.1 y.2.2.2.1 ∧ (∀ z ∈ T2, z ∈ y.2.2.1) ∧ (∀ kk bb, cT_ ks2 kk = some bb → cT_ y.2.1 kk = some bb) ∧ y.1 ≤ x0.i + 1 ∧ (∀ e, e < y.1 → (Itm.mk (Rul.f y2) e x0.i) ∈ Tw → (Itm.mk (Rul.r y2) e x0.j) ∈ y.2.2.1) ∧ bk_ 146 3 y.2.2.2.2.2.1 (List.length y.2.2.2.1) (List.flatMap Itm.cells y.2.2.2.1) y.2.2.2.2.2.2}) (fun y => [(5, zp_ b1 0), (6, zp_ b3 0), (7, zp_ b4 0), (8, .func (.func 123) #[] #[zp_ b3 0, zp_ b4 0]), (9, .int .i64 (List.length ws : Int)), (15, zp_ b5 0), (139, .slice (Prod.fst (a2 (Itm.r x0))) (List.length (lat (List.map (fun x => (Rul.s x, x)) R) (Itm.r x0))) (Prod.snd (a2 (Itm.r x0)))), (140, .int .i64 (List.length (lat (List.map (fun x => (Rul.s x, x)) R) (Itm.r x0)) : Int)), (141, .int .i64 (k2 : Int)), (23, zp_ b6 0), (24, gn_ (cT_ ks2 (Rul.f y2))), (25, .int .i64 (y.1.1 : Int))]) (fun y => ((b1, .cells #[.map (some gba), .map (some gb1), .map (some gb2), .slice none 0 0] 140 (0, 0)) :: ((b5, .cells #[str (Itm.r x0), .int .i64 (Itm.i x0 : Int), .int .i64 (Itm.j x0 : Int)] 146 (0, 0)) :: ((b6, .cells #[str (Rul.f y2), str (Rul.s y2), str (Rul.r y2)] 150 (0, 0)) :: ((b4, .cells #[y.1.2.2.2.2.2.1] 142 (0, 0)) :: (y.1.2.2.2.2.1 ++ y.1.2.2.2.2.2.2)))))) (fun y => [dp_ b3 (.cells #[.map (some b2)] 104 (0, 0)), dp_ gba (.map #[] 0), mlF Tryz.prog 9 str Rul.cells gb2 (List.map (fun x => (Rul.s x, x)) R) a2, mlF Tryz.prog 9 str Rul.cells gb1 (List.map (fun x => (Rul.f x, x)) R) a1, ev_ ad l, bQ_ wad (List.flatMap cn_ ws), bH_]) (fun y => x0.i + 1 - y.1.1) ⟨((0 : Nat), ks2, T2, Q2, HT2, sv_Q, H_Q), hT2, hS2, fun z h => h, fun _ _ h => h, by dsimp only; omega, fun e h2 => absurd h2 (by dsimp only; omega), hr_Q⟩ ⟨rfl, rfl, rfl, rfl, rfl, rfl, rfl, rfl, rfl, rfl, rfl, rfl, trivial⟩ (j_ (i_ h_) (j_ (i_ h_) (j_ h_ (j_ h_ (ak_ W_ aQ_))))) (fun _ _ h => h) ?_
      rintro ⟨⟨eb, ksb, Tb, Qb, HTb, sv_Q, H_Q⟩, hTb, hSb, hVb, hUb, heb, hNb, hr_Q⟩
      dsimp only at hTb hSb hVb hUb heb hNb hr_Q ⊢
      refine f_ (f_ (b_ (a_ (g_ rfl) rfl (a_ (m_ bI_ rfl rfl rfl L_) rfl (a_ (t_ 1 O_ rfl rfl rfl) rfl (v_ (cy_ rfl rfl) rfl fun r6 hr6 => ?_))))))
      refine d_ (c_ rfl ?_)
      cases r6
      ·
       replace hr6 := of_decide_eq_false hr6
       refine r_ rfl (aU_ rfl (c_ rfl (b_ (a_ (R_ rfl rfl rfl (aq_ (by omega) (by omega))) rfl (a_ (g_ rfl) rfl (d_ (o_ rfl ?_)))))))
       exact av_ ⟨(k2 + 1, ksb, Tb, Qb, HTb, sv_Q, H_Q), hTb, hly2, hSb, Pr2.step hP2 hy2 hVb (fun e h1 h3 => hNb e (by omega) h3), fun z hz => hVb z (hG2 z hz), hr_Q⟩ (by dsimp only; omega) ⟨rfl, rfl, rfl, rfl, rfl, rfl, rfl, rfl, rfl, trivial⟩ (j_ h_ (j_ h_ (j_ (i_ h_) (ak_ (i_ W_) bh_)))) (fun _ _ h => h)
      ·
       replace hr6 := of_decide_eq_true hr6
       refine p_ rfl (D_ (c_ rfl (f_ (T_ (f_ ?_)))))
       refine br_ (by kernel_rfl) ?_
       refine ab_ 0 [0, 1, 2, 3, 4, 5, 6, 7] (by kernel_rfl) (fun _ a b => ⟨a, b⟩) (s_ rfl (g_ rfl) rfl (s_ rfl (g_ rfl) rfl (s_ rfl (m_ bI_ rfl rfl rfl L_) rfl (s_ rfl (t_ 1 O_ rfl rfl rfl) rfl (s_ rfl (dP_ hbk1 rfl) rfl (s_ rfl (dO_ (i := eb) cQ_ eQ_ rfl rfl (by omega)) rfl (s_ rfl (ds_ (j := Itm.i x0) cS_ au_ rfl rfl (by omega)) rfl ?_)))))))
       refine gg_ rfl (ei_ (k := (Rul.f y2)) (i := eb) (j := Itm.i x0) aK_ hTb (hUb _ _ hbk1) (by omega) (by omega) rfl (i_ (i_ (i_ (i_ W_))))) rfl fun r7 hr7 => ?_
       refine aa_ (ad_ (by kernel_rfl) (c_ rfl ?_))
       cases r7
       ·
        replace hr7 := of_decide_eq_false hr7
        refine r_ rfl (D_ (c_ rfl (b_ (a_ (g_ rfl) rfl (a_ (R_ rfl rfl rfl (aq_ (by omega) (by omega))) rfl (a_ (e_ rfl) rfl (d_ (o_ rfl ?_))))))))
        exact av_ ⟨(eb + 1, ksb, Tb, Qb, HTb, sv_Q, H_Q), hTb, hSb, hVb, hUb, by dsimp only; omega, fun e h2 h3 => by rcases Nat.lt_or_ge e eb with q | q; exact hNb e q h3; dsimp only at h2; obtain rfl : e = eb := (by omega); exact absurd (hSb.old _ h3) (by assumption), hr_Q⟩ (by dsimp only; omega) ⟨rfl, rfl, rfl, rfl, rfl, rfl, rfl, rfl, rfl, rfl, rfl, rfl, trivial⟩ (j_ h_ (j_ h_ (j_ h_ (j_ h_ (ak_ W_ aQ_))))) (fun _ _ h => h)
       ·
        replace hr7 := of_decide_eq_true hr7
        refine p_ rfl (b_ (a_ (g_ rfl) rfl (a_ (m_ ax_ rfl rfl rfl z_) rfl (a_ (t_ 2 E_ rfl rfl rfl) rfl (a_ (g_ rfl) rfl (a_ (m_ bI_ rfl rfl rfl L_) rfl (a_ (t_ 1 O_ rfl rfl rfl) rfl (aE_ (jk_ (Rul.r y2) eb (Itm.j x0) (by have := hix; omega) (by have := hix; omega) b3 b4 b2 ksb Tb Qb sv_Q HTb H_Q hTb hr_Q (by have := (Stg.small hSb hw hRR hw).1; omega)) rfl rfl (j_ (i_ (i_ (i_ h_))) (ak_ (i_ (i_ (i_ W_))) (i_ (i_ bh_)))) (fun v _ h => by exact ⟨h.1, trivial⟩) rfl fun ⟨⟨kA1, sA1, HA1, HB1⟩, hA1, hB1, hU1⟩ => ?_))))))))
        dsimp only
        simp only [List.cons_append, List.append_assoc, List.append_nil]
        refine d_ (c_ rfl (Y_ (aA_ h_ (aA_ (w_ (w_ h_)) (aA_ (w_ (w_ h_)) (cM_ (w_ bT_))))) (b_ (a_ (g_ rfl) rfl (a_ (R_ rfl rfl rfl (aq_ (by omega) (by omega))) rfl (a_ (e_ rfl) rfl (d_ (o_ rfl ?_))))))))
        exact av_ ⟨(eb + 1, kA1, (cP_ (Itm.mk (Rul.r y2) eb (Itm.j x0)) Tb), (ge_ (Itm.mk (Rul.r y2) eb (Itm.j x0)) Tb Qb), HA1, sA1, HB1), hA1, hSb.add ⟨hry, by dsimp only; omega, by dsimp only; omega⟩, fun z hz => aB_.2 (.inl (hVb z hz)), fun kk bb h => hU1 _ _ (hUb kk bb h), by dsimp only; omega, fun e h2 h3 => by rcases Nat.lt_or_ge e eb with q | q; exact aB_.2 (.inl (hNb e q h3)); dsimp only at h2; obtain rfl : e = eb := (by omega); exact aB_.2 (.inr rfl), hB1⟩ (by dsimp only; omega) ⟨rfl, rfl, rfl, rfl, rfl, rfl, rfl, rfl, rfl, rfl, rfl, rfl, trivial⟩ (j_ (i_ h_) (j_ (i_ h_) (j_ (i_ h_) (j_ h_ (ak_ W_ aQ_))))) (fun _ _ h => h)
   ·
    replace hr3 := of_decide_eq_true hr3
    have hly1 : k1 < List.length (lat (List.map (fun x => (Rul.f x, x)) R) (Itm.r x0)) := by omega
    obtain ⟨y1, hy1⟩ : ∃ e0, (lat (List.map (fun x => (Rul.f x, x)) R) (Itm.r x0))[k1]? = some e0 := ⟨_, List.getElem?_eq_getElem hly1⟩
    have hmy1 : y1 ∈ (lat (List.map (fun x => (Rul.f x, x)) R) (Itm.r x0)) := List.mem_of_getElem? hy1
    refine p_ rfl (D_ (c_ rfl (f_ (T_ (f_ (b_ (a_ (am_ aG_ as_ rfl rfl (fun v _ h => aS_ (n := 3) Rul.cells_len (by decide) (by exact (gk_ h.2.2.2.1 (Itm.r x0))) hy1) (by omega) (by first | omega | (simp; done))) rfl (a_ (aH_ (ad := (Prod.fst (a1 (Itm.r x0)))) (us := Rul.cells y1) cx_ as_ rfl (fun v _ h => by exact (gk_ h.2.2.2.1 (Itm.r x0))) (Rul.cells_len _) (ao_ Rul.cells_len hy1)) rfl (an_ aP_ rfl fun b7 => ?_)))))))))
    refine ah_ 0 as_ rfl rfl rfl rfl rfl rfl (d_ (c_ rfl (f_ (b_ (a_ (bx_ dG_ rfl (fun v _ h => by exact h.1) rfl) rfl (a_ (m_ ax_ rfl rfl rfl z_) rfl (a_ (t_ 0 E_ rfl rfl rfl) rfl (a_ (de_ (k := (Rul.s y1)) cq_ bV_ cX_ hT1 rfl rfl (i_ (i_ (i_ (i_ W_))))) rfl (a_ (e_ rfl) rfl ?_)))))))))
    refine d_ (c_ rfl (f_ (b_ (a_ (g_ rfl) rfl (v_ (fO_ Tryz.underlying103 rfl rfl) rfl fun r8 hr8 => ?_)))))
    refine d_ (c_ rfl ?_)
    cases r8
    ·
     refine r_ rfl (D_ (c_ rfl (b_ (a_ (R_ rfl rfl rfl (aq_ (by omega) (by omega))) rfl (a_ (g_ rfl) rfl (d_ (o_ rfl ?_)))))))
     exact av_ ⟨(k1 + 1, ks1, T1, Q1, HT1, sv_Q, H_Q), hT1, hly1, hS1, Pr1.step hP1 hy1 (fun _ h => h) (fun e h1 h2 h3 => absurd rfl (dA_.none hT1 (by simpa using hr8) _ (hS1.old _ h3))), hr_Q⟩ (by dsimp only; omega) ⟨rfl, rfl, rfl, rfl, rfl, rfl, rfl, rfl, rfl, trivial⟩ (j_ (i_ h_) (j_ (i_ h_) (j_ (i_ h_) (ak_ (i_ W_) bh_)))) (fun _ _ h => h)
    ·
     obtain ⟨bk2, hbk2⟩ := Option.ne_none_iff_exists'.1 (show cT_ ks1 (Rul.s y1) ≠ none from by simpa using hr8)
     refine p_ rfl (f_ (b_ (a_ (m_ bI_ rfl rfl rfl L_) rfl (a_ (t_ 2 O_ rfl rfl rfl) rfl (a_ (e_ rfl) rfl (d_ (c_ rfl (T_ ?_))))))))
     have hix : x0.i ≤ x0.j ∧ x0.j ≤ List.length ws := (hS1.bd x0 hS1.xT).2
     have hry : y1.r ∈ fs_ ws R := kv_ (iE_.1 hmy1).1
     refine ch_ (ι := {y : Nat × List (Str × Nat) × List Itm × List Itm × Hp × Value × Hp // dA_ 144 b2 y.2.1 y.2.2.1 y.2.2.2.2.1 ∧ Stg (fs_ ws R) (List.length ws) x0 Tw Qp y.2.2.1 y.2.2.2.1 ∧ (∀ z ∈ T1, z ∈ y.2.2.1) ∧ (∀ kk bb, cT_ ks1 kk = some bb → cT_ y.2.1 kk = some bb) ∧ (x0.j ≤ y.1 ∧ y.1 ≤ List.length ws + 1) ∧ (∀ e, x0.j ≤ e → e < y.1 → (Itm.mk (Rul.s y1) x0.j e) ∈ Tw → (Itm.mk (Rul.r y1) x0.i e) ∈ y.2.2.1) ∧ bk_ 146 3 y.2.2.2.2.2.1 (List.length y.2.2.2.1) (List.flatMap Itm.cells y.2.2.2.1) y.2.2.2.2.2.2}) (fun y => [(5, zp_ b1 0), (6, zp_ b3 0), (7, zp_ b4 0), (8, .func (.func 123) #[] #[zp_ b3 0, zp_ b4 0]), (9, .int .i64 (List.length ws : Int)), (15, zp_ b5 0), (100, .slice (Prod.fst (a1 (Itm.r x0))) (List.length (lat (List.map (fun x => (Rul.f x, x)) R) (Itm.r x0))) (Prod.snd (a1 (Itm.r x0)))), (101, .int .i64 (List.length (lat (List.map (fun x => (Rul.f x, x)) R) (Itm.r x0)) : Int)), (102, .int .i64 (k1 : Int)), (19, zp_ b7 0), (20, gn_ (cT_ ks1 (Rul.s y1))), (21, .int .i64 (y.1.1 : Int))]) (fun y => ((b1, .cells #[.map (some gba), .map (some gb1), .map (some gb2), .slice none 0 0] 140 (0, 0)) :: ((b5, .cells #[str (Itm.r x0), .int .i64 (Itm.i x0 : Int), .int .i64 (Itm.j x0 : Int)] 146 (0, 0)) :: ((b7, .cells #[str (Rul.f y1), str (Rul.s y1), str (Rul.r y1)] 150 (0, 0)) :: ((b4, .cells #[y.1.2.2.2.2.2.1] 142 (0, 0)) :: (y.1.2.2.2.2.1 ++ y.1.2.2.2.2.2.2)))))) (fun y => [dp_ b3 (.cells #[.map (some b2)] 104 (0, 0)), dp_ gba (.map #[] 0), mlF Tryz.prog 9 str Rul.cells gb2 (List.map (fun x => (Rul.s x, x)) R) a2, mlF Tryz.prog 9 str Rul.cells gb1 (List.map (fun x => (Rul.f x, x)) R) a1, ev_ ad l, bQ_ wad (List.flatMap cn_ ws), bH_]) (fun y => List.length ws + 1 - y.1.1) ⟨((Itm.j x0), ks1, T1, Q1, HT1, sv_Q, H_Q), hT1, hS1, fun z h => h, fun _ _ h => h, ⟨Nat.le_refl _, by dsimp only; omega⟩, fun e h1 h2 => absurd h2 (by dsimp only; omega), hr_Q⟩ ⟨rfl, rfl, rfl, rfl, rfl, rfl, rfl, rfl, rfl, rfl, rfl, rfl, trivial⟩ (j_ (i_ h_) (j_ (i_ h_) (j_ h_ (j_ h_ (ak_ W_ aQ_))))) (fun _ _ h => h) ?_
     rintro ⟨⟨ea, ksa, Ta, Qa, HTa, sv_Q, H_Q⟩, hTa, hSa, hVa, hUa, hea, hNa, hr_Q⟩
     dsimp only at hTa hSa hVa hUa hea hNa hr_Q ⊢
     refine f_ (f_ (b_ (a_ (g_ rfl) rfl (a_ (g_ rfl) rfl (v_ (cy_ rfl rfl) rfl fun r9 hr9 => ?_)))))
     refine d_ (c_ rfl ?_)
     cases r9
     ·
      replace hr9 := of_decide_eq_false hr9
      refine r_ rfl (aU_ rfl (c_ rfl (b_ (a_ (R_ rfl rfl rfl (aq_ (by omega) (by omega))) rfl (a_ (g_ rfl) rfl (d_ (o_ rfl ?_)))))))
      exact av_ ⟨(k1 + 1, ksa, Ta, Qa, HTa, sv_Q, H_Q), hTa, hly1, hSa, Pr1.step hP1 hy1 hVa (fun e h1 h2 h3 => hNa e h1 (by omega) h3), hr_Q⟩ (by dsimp only; omega) ⟨rfl, rfl, rfl, rfl, rfl, rfl, rfl, rfl, rfl, trivial⟩ (j_ h_ (j_ h_ (j_ (i_ h_) (ak_ (i_ W_) bh_)))) (fun _ _ h => h)
     ·
      replace hr9 := of_decide_eq_true hr9
      refine p_ rfl (D_ (c_ rfl (f_ (T_ (f_ ?_)))))
      refine br_ (by kernel_rfl) ?_
      refine ab_ 0 [0, 1, 2, 3, 4, 5, 6, 7] (by kernel_rfl) (fun _ a b => ⟨a, b⟩) (s_ rfl (g_ rfl) rfl (s_ rfl (m_ bI_ rfl rfl rfl L_) rfl (s_ rfl (t_ 1 O_ rfl rfl rfl) rfl (s_ rfl (g_ rfl) rfl (s_ rfl (dP_ hbk2 rfl) rfl (s_ rfl (dO_ (i := Itm.j x0) cQ_ eQ_ rfl rfl (by omega)) rfl (s_ rfl (ds_ (j := ea) cS_ au_ rfl rfl (by omega)) rfl ?_)))))))
      refine gg_ rfl (ei_ (k := (Rul.s y1)) (i := Itm.j x0) (j := ea) aK_ hTa (hUa _ _ hbk2) (by omega) (by omega) rfl (i_ (i_ (i_ (i_ W_))))) rfl fun r10 hr10 => ?_
      refine aa_ (ad_ (by kernel_rfl) (c_ rfl ?_))
      cases r10
      ·
       replace hr10 := of_decide_eq_false hr10
       refine r_ rfl (D_ (c_ rfl (b_ (a_ (g_ rfl) rfl (a_ (R_ rfl rfl rfl (aq_ (by omega) (by omega))) rfl (a_ (e_ rfl) rfl (d_ (o_ rfl ?_))))))))
       exact av_ ⟨(ea + 1, ksa, Ta, Qa, HTa, sv_Q, H_Q), hTa, hSa, hVa, hUa, ⟨by dsimp only; omega, by dsimp only; omega⟩, fun e h1 h2 h3 => by rcases Nat.lt_or_ge e ea with q | q; exact hNa e h1 q h3; dsimp only at h2; obtain rfl : e = ea := (by omega); exact absurd (hSa.old _ h3) (by assumption), hr_Q⟩ (by dsimp only; omega) ⟨rfl, rfl, rfl, rfl, rfl, rfl, rfl, rfl, rfl, rfl, rfl, rfl, trivial⟩ (j_ h_ (j_ h_ (j_ h_ (j_ h_ (ak_ W_ aQ_))))) (fun _ _ h => h)
      ·
       replace hr10 := of_decide_eq_true hr10
       refine p_ rfl (b_ (a_ (g_ rfl) rfl (a_ (m_ ax_ rfl rfl rfl z_) rfl (a_ (t_ 2 E_ rfl rfl rfl) rfl (a_ (m_ bI_ rfl rfl rfl L_) rfl (a_ (t_ 1 O_ rfl rfl rfl) rfl (a_ (g_ rfl) rfl (aE_ (jk_ (Rul.r y1) (Itm.i x0) ea (by have := hix; omega) (by have := hix; omega) b3 b4 b2 ksa Ta Qa sv_Q HTa H_Q hTa hr_Q (by have := (Stg.small hSa hw hRR hw).1; omega)) rfl rfl (j_ (i_ (i_ (i_ h_))) (ak_ (i_ (i_ (i_ W_))) (i_ (i_ bh_)))) (fun v _ h => by exact ⟨h.1, trivial⟩) rfl fun ⟨⟨kA2, sA2, HA2, HB2⟩, hA2, hB2, hU2⟩ => ?_))))))))
       dsimp only
       simp only [List.cons_append, List.append_assoc, List.append_nil]
       refine d_ (c_ rfl (Y_ (aA_ h_ (aA_ (w_ (w_ h_)) (aA_ (w_ (w_ h_)) (cM_ (w_ bT_))))) (b_ (a_ (g_ rfl) rfl (a_ (R_ rfl rfl rfl (aq_ (by omega) (by omega))) rfl (a_ (e_ rfl) rfl (d_ (o_ rfl ?_))))))))
       exact av_ ⟨(ea + 1, kA2, (cP_ (Itm.mk (Rul.r y1) (Itm.i x0) ea) Ta), (ge_ (Itm.mk (Rul.r y1) (Itm.i x0) ea) Ta Qa), HA2, sA2, HB2), hA2, hSa.add ⟨hry, by dsimp only; omega, by dsimp only; omega⟩, fun z hz => aB_.2 (.inl (hVa z hz)), fun kk bb h => hU2 _ _ (hUa kk bb h), ⟨by dsimp only; omega, by dsimp only; omega⟩, fun e h1 h2 h3 => by rcases Nat.lt_or_ge e ea with q | q; exact aB_.2 (.inl (hNa e h1 q h3)); dsimp only at h2; obtain rfl : e = ea := (by omega); exact aB_.2 (.inr rfl), hB2⟩ (by dsimp only; omega) ⟨rfl, rfl, rfl, rfl, rfl, rfl, rfl, rfl, rfl, rfl, rfl, rfl, trivial⟩ (j_ (i_ h_) (j_ (i_ h_) (j_ (i_ h_) (j_ h_ (ak_ W_ aQ_))))) (fun _ _ h => h)
 ·
  replace hr1 := of_decide_eq_true hr1
  have hlr1 : i < List.length ws := by omega
  obtain ⟨r1, hr1⟩ : ∃ e0, ws[i]? = some e0 := ⟨_, List.getElem?_eq_getElem hlr1⟩
  have hmr1 : r1 ∈ ws := List.mem_of_getElem? hr1
  refine p_ rfl (D_ (c_ rfl (f_ (T_ (f_ (b_ (a_ (g_ rfl) rfl (a_ (am_ J_ z_ rfl rfl (fun v _ h => aS_ (n := 1) aM_ (by decide) (by exact h.2.2.2.2.2.1) hr1) (by omega) (by first | omega | (simp; done))) rfl (a_ (bw_ (ad := wad) E_ rfl (fun v _ h => by exact h.2.2.2.2.2.1) (ao_ aM_ hr1 0 _ rfl)) rfl ?_)))))))))
  refine a_ (e_ rfl) rfl (a_ (e_ rfl) rfl (d_ (c_ rfl (b_ (a_ (g_ rfl) rfl (a_ (g_ rfl) rfl (a_ (g_ rfl) rfl (a_ (g_ rfl) rfl (a_ (R_ rfl rfl rfl (aq_ (by omega) (by omega))) rfl ?_)))))))))
  refine aE_ (jk_ r1 i (i + 1) (by have := hlr1; omega) (by have := hlr1; omega) b3 b4 b2 ks0 T0 Q0 sv_Q HT0 H_Q hT0 hr_Q (by have := hI.len; have := hi; rw [hQT]; omega)) rfl rfl (j_ (i_ h_) (ak_ (i_ W_) bh_)) (fun v _ h => by exact ⟨h.1, trivial⟩) rfl fun ⟨⟨kA3, sA3, HA3, HB3⟩, hA3, hB3, hU3⟩ => ?_
  dsimp only
  simp only [List.cons_append, List.append_assoc, List.append_nil]
  refine d_ (c_ rfl (Y_ (aA_ h_ (cM_ (w_ bT_))) (b_ (a_ (R_ rfl rfl rfl (aq_ (by omega) (by omega))) rfl (a_ (g_ rfl) rfl (d_ (o_ rfl ?_)))))))
  exact av_ ⟨(i + 1, kA3, (cP_ (Itm.mk r1 i (i + 1)) T0), (ge_ (Itm.mk r1 i (i + 1)) T0 Q0), HA3, sA3, HB3), hA3, hlr1, hI.add hr1, by rw [hQT]; rfl, hB3⟩ (by dsimp only; omega) ⟨rfl, rfl, rfl, rfl, rfl, rfl, rfl, rfl, trivial⟩ (j_ (i_ h_) (j_ h_ (ak_ W_ aQ_))) (fun _ _ h => h)
end Go.Proofs.YtoafjmalfclpoaaGreatDoor
namespace Go.Proofs.YtoafjmalfclpoaaGreatDoor
open Go Go.Sx Go.Proofs
attribute [local irreducible] Code.wp wpList wpAnyH
open Go.Vs
theorem word_c (l : List Ax) (ad : Option Addr) (cap : Nat) (hok : ∀ x ∈ l, x.ok) (hC : ∀ x ∈ l, x.check = 0) (hK : ∀ x ∈ l, x.kind = 6) (hll : l.length ≤ 100) (ws : List Str) (wad : Option Addr) (wcap : Nat) (hwc : ws.length ≤ wcap) (hwz : wad = none → wcap = 0) (hw : ws.length ≤ 4) (h2 : 2 ≤ ws.length) (rolx : Str) (x : Ax) (hxl : x ∈ l) (hxr : x.roles = ws) (hxo : x.role = rolx) (hL : ∀ y, y = rolx ∨ y ∈ ws → y.length ≤ 140737488351232) (hN : ∀ y, y = rolx ∨ y ∈ ws → bb_ y = true) : Tri Tryz.prog 26 #[.slice ad (List.length l) cap, .slice wad (List.length ws) wcap, str rolx] [] [ev_ ad l, bQ_ wad (List.flatMap cn_ ws), bH_] (fun _ : Unit => .tuple #[.bool true, .int .i64 0]) (fun _ => []) (fun _ => []) := by
  refine M_ Tryz.func26 rfl rfl Tryz.ntmps26 rfl fun v0 => ?_
  refine f_ (b_ (a_ (e_ rfl) rfl (a_ (e_ rfl) rfl (d_ (c_ rfl (f_ (f_ (b_ (a_ (g_ rfl) rfl ?_)))))))))
  refine a_ (g_ rfl) rfl (X_ J_ z_ co_ rfl rfl rfl rfl rfl rfl fun b1 => ?_)
  have hrw1 : bk_ 9 1 (.slice (some ⟨b1, 0, none⟩) 1 1) (List.length [rolx]) (List.flatMap cn_ [rolx]) [(b1, .cells #[str rolx] 9 (0, 0))] := ⟨rfl, .inr ⟨b1, 1, _, rfl, rfl, Nat.le_refl _, by simp [maxLen], rfl, rfl⟩⟩
  refine Y_ h_ (a_ (g_ rfl) rfl (bu_ (news := List.flatMap cn_ ws) lI_ hrw1 rfl rfl hwz hwc aQ_ (by rw [cC_ cn_ 1 aM_]) (fun v _ h => by exact h.2.1) (fun u hu => ck_ kz_ hu) (by simp only [maxLen]; (simp only [List.length_cons, List.length_nil]; omega)) (by (simp only [List.length_cons, List.length_nil]; omega)) rfl fun sv1 Hr1 hr1 => ?_))
  refine Y_ List.perm_append_comm ?_
  have hq1 : bk_ 9 1 sv1 (List.length ([rolx] ++ ws)) (List.flatMap cn_ ([rolx] ++ ws)) Hr1 := by rw [List.length_append, List.flatMap_append]; exact hr1
  refine is_ hq1 aQ_ fun nd1 nc1 hnd1 hcnd1 hmnd1 hznd1 => ?_
  subst hnd1
  refine A_ (if_ l ad cap hok hC (by omega) ([rolx] ++ ws) nd1 nc1 (fun y hy => hL y (by simpa using hy)) (fun y hy => hN y (by simpa using hy)) (by simp only [List.length_append, List.length_cons, List.length_nil]; omega)) rfl S_ (fun v _ h => by exact ⟨h.2.1, h.1, h.2.2.2.1, trivial⟩) rfl fun _ => ?_
  refine a_ (e_ rfl) rfl (d_ (c_ rfl (f_ (b_ (a_ (g_ rfl) rfl (a_ (bB_ (bO_ rfl rfl) (show _ = Value.bool false from congrArg Value.bool (by decide))) rfl (d_ (c_ rfl (r_ rfl ?_)))))))))
  refine D_ (c_ rfl (f_ (f_ (b_ (a_ (g_ rfl) rfl (a_ (ar_ J_ rfl) rfl (v_ (ce_ rfl rfl) rfl fun r1 hr1 => ?_)))))))
  refine d_ (c_ rfl ?_)
  cases r1
  · skip
    replace hr1 := of_decide_eq_false hr1
    refine r_ rfl (D_ (c_ rfl (f_ (b_ (a_ (g_ rfl) rfl (a_ (g_ rfl) rfl (A_ (ie_ l ad cap hok hC hK hll ws wad wcap (by omega)) rfl S_ (fun v _ h => by exact ⟨h.2.1, h.2.2.1, h.2.2.2.1, trivial⟩) rfl fun ⟨⟨mbw, ks, R, T, HT⟩, hWK⟩ => ?_)))))))
    dsimp only
    have hTb : dA_ 144 mbw ks T HT := hWK.tab
    simp only [List.append_nil]
    have hin : (Itm.mk rolx 0 (List.length ws)) ∈ T := by subst hxr; subst hxo; exact kr_ h2 hWK.rc (fun i g1 g2 => hWK.all x hxl i g1 g2) hWK.w
    obtain ⟨bt, hbt⟩ : ∃ b, cT_ ks rolx = some b := by cases hc : cT_ ks rolx with | none => exact absurd rfl (dA_.none hWK.tab hc _ hin) | some b => exact ⟨b, rfl⟩
    refine a_ (g_ rfl) rfl (a_ (de_ (k := rolx) cq_ bV_ cX_ hTb rfl rfl aQ_) rfl (a_ (e_ rfl) rfl (d_ (c_ rfl (f_ (b_ (a_ (g_ rfl) rfl (a_ (bB_ (fO_ Tryz.underlying103 rfl rfl) (show _ = Value.bool true from by rw [hbt]; rfl)) rfl (a_ (g_ rfl) rfl ?_)))))))))
    refine n_ rfl rfl (a_ (g_ rfl) rfl (n_ rfl rfl (a_ (g_ rfl) rfl (n_ rfl rfl (a_ (ar_ J_ rfl) rfl (n_ rfl rfl (a_ (dP_ hbt rfl) rfl (n_ rfl rfl (a_ (dO_ (i := 0) cQ_ eQ_ rfl rfl (by omega)) rfl ?_)))))))))
    refine n_ rfl rfl (a_ (ds_ (j := List.length ws) cS_ au_ rfl rfl (by omega)) rfl (n_ rfl rfl (a_ (bB_ (ei_ (k := rolx) (i := 0) (j := List.length ws) aK_ hTb hbt (by omega) (by omega) rfl aQ_) (show _ = Value.bool true from congrArg _ (decide_eq_true hin))) rfl (a_ (K_ rfl rfl) rfl (a_ (e_ rfl) rfl (a_ (e_ rfl) rfl (d_ (c_ rfl (B_ ?_)))))))))
    exact iU_ Tryz.results26 () rfl rfl rfl S_ (fun _ _ _ => trivial)
  · skip
    replace hr1 := of_decide_eq_true hr1
    exfalso; omega
end Go.Proofs.YtoafjmalfclpoaaGreatDoor
namespace Go.Proofs.YtoafjmalfclpoaaGreatDoor
open Go Go.Sx Go.Proofs
attribute [local irreducible] Code.wp wpList wpAnyH
open Go.Vs
def chT (l : List Str) (s : Str) (i : Nat) : Str := if i + 1 = l.length then s else Lib.join (l.take (i + 1)) [46]
theorem hz_ (a x : Str) : a ++ 46 :: x ≠ a := fun h => by
  have := congrArg List.length h
  simp at this
theorem jR_ {v : Vw} {cs : List Value} (h : bq_ v none cs) : cs = [] := by
  rcases h with h | ⟨b, off, arr, T, fz, h1, _⟩
  · exact h
  · cases h1
theorem dot_no (a x : Str) : bb_ (a ++ 46 :: x) = false := by
  rw [Bool.eq_false_iff]
  intro h
  unfold bb_ at h
  rw [Bool.or_eq_true] at h
  rcases h with h | h
  · rcases jW_ h 46 (by simp) with h | h <;> revert h <;> decide
  · unfold bY_ fu_ at h
    simp only [Bool.and_eq_true] at h
    have := List.all_eq_true.1 h.2 46 (by simp)
    revert this; decide
theorem lj_ {l : List Str} {s : Str} {ad : Option Addr} {cap : Nat} (h2 : 2 ≤ l.length) (h4 : l.length ≤ 4) : (Ax.pieces 0 (Ax.mk 6 true (Con.mk 0 [] 0 0 none 0 []) (Con.mk 0 [] 0 0 none 0 []) ad cap l s [] [])).length = l.length - 1 ∧
    ∀ i, i + 1 < l.length → (Ax.pieces 0 (Ax.mk 6 true (Con.mk 0 [] 0 0 none 0 []) (Con.mk 0 [] 0 0 none 0 []) ad cap l s [] []))[i]? = some ⟨6, [], [], [], chT l s i, l.getD (i + 1) [], chT l s (i + 1), 0, 0, 0⟩ := by
  have e : Ax.pieces 0 (Ax.mk 6 true (Con.mk 0 [] 0 0 none 0 []) (Con.mk 0 [] 0 0 none 0 []) ad cap l s [] []) = Ax.chainP 0 s (l.drop 1) (l.headD []) [] := rfl
  rw [e]
  match l, h2, h4 with
  | [a, b], _, _ =>
    refine ⟨by simp [Ax.chainP, ins], fun i hi => ?_⟩
    obtain rfl : i = 0 := by simp at hi; omega
    simp [Ax.chainP, ins, chT, Lib.join, List.intercalate]
  | [a, b, c], _, _ =>
    have n1 := hz_ a b
    refine ⟨by simp [Ax.chainP, ins, n1], fun i hi => ?_⟩
    have : i = 0 ∨ i = 1 := by simp at hi; omega
    rcases this with rfl | rfl <;> simp [Ax.chainP, ins, chT, n1, Lib.join, List.intercalate]
  | [a, b, c, d], _, _ =>
    have n1 := hz_ a b
    have n2 := hz_ a (b ++ 46 :: c)
    have n3 : ∀ x y : Str, 46 :: (x ++ 46 :: y) ≠ 46 :: x := fun x y h => by have := congrArg List.length h; simp at this
    refine ⟨by simp [Ax.chainP, ins, n1, n2, n3], fun i hi => ?_⟩
    have : i = 0 ∨ i = 1 ∨ i = 2 := by simp at hi; omega
    rcases this with rfl | rfl | rfl <;> simp [Ax.chainP, ins, chT, n1, n2, n3, Lib.join, List.intercalate]
theorem lk_ {l : List Str} {s q : Str} (h2 : 2 ≤ l.length) (h : l[0]? = some q) : chT l s 0 = q := by
  unfold chT
  rw [if_neg (by omega)]
  cases l with
  | nil => simp at h
  | cons a t => simp at h; subst h; simp [Lib.join_one]
theorem iL_ {l : List Str} {s : Str} {i : Nat} (h : i + 1 = l.length) : chT l s i = s := if_pos h
theorem lL_ {l : List Str} {s : Str} {i : Nat} (h1 : 1 ≤ i) (h : i + 1 < l.length) : bb_ (chT l s i) = false := by
  unfold chT
  rw [if_neg (by omega)]
  match l, h with
  | a :: b :: t, h =>
    obtain ⟨j, rfl⟩ : ∃ j, i = j + 1 := ⟨i - 1, by omega⟩
    rw [List.take_succ_cons, List.take_succ_cons, Lib.join_cons]
    simp only [Lib.joinTail, List.map_cons, List.flatten_cons, List.cons_append, List.nil_append]
    exact dot_no a _
  | [a], h => simp at h
  | [], h => simp at h
theorem lM_ {l : List Str} {s : Str} {i : Nat} (hl : ∀ r ∈ l, r.length ≤ 1000) (hs : s.length ≤ 1000) (h4 : l.length ≤ 4) : (chT l s i).length ≤ 140737488351232 := by
  unfold chT
  split
  · omega
  · rcases Nat.lt_or_ge (i + 1) l.length with q | q
    · have := eB_ (x := (Ax.mk 6 true (Con.mk 0 [] 0 0 none 0 []) (Con.mk 0 [] 0 0 none 0 []) none 0 l s [] [])) (k := i + 1) (Nat.le_of_lt q) hl h4; dsimp only at this; omega
    · have := eB_ (x := (Ax.mk 6 true (Con.mk 0 [] 0 0 none 0 []) (Con.mk 0 [] 0 0 none 0 []) none 0 l s [] [])) (k := l.length) (Nat.le_refl _) hl h4
      dsimp only at this
      rw [List.take_of_length_le q]; rw [List.take_length] at this; omega
theorem chA_ok {l : List Str} {s : Str} {ad : Option Addr} {cap : Nat} (hlen : ∀ y ∈ l, y.length ≤ 140737488351232) (hlc : l.length ≤ cap) (hcap : cap ≤ 8796093021952) (hs : s.length ≤ 140737488351232) : Ax.ok (Ax.mk 6 true (Con.mk 0 [] 0 0 none 0 []) (Con.mk 0 [] 0 0 none 0 []) ad cap l s [] []) :=
  ⟨by dsimp only; decide, by dsimp only; decide, by simp [Con.ok, Con.ok.oks], by simp [Con.ok, Con.ok.oks], hlc, hcap, hlen, hs, by simp, by simp⟩
theorem normalChains_c (l : List Str) (ad : Option Addr) (cap : Nat) (hlen : ∀ y ∈ l, y.length ≤ 140737488351232) (hlc : l.length ≤ cap) (hcap : cap ≤ 8796093021952) (s : Str) (hs : s.length ≤ 140737488351232) : Tri Tryz.prog 7 #[.slice ad (List.length l) cap, str s] [] [bQ_ ad (List.flatMap cn_ l), bH_] (fun _ : Unit => .bool true) (fun _ => []) (fun _ => []) := by
 refine M_ Tryz.func7 rfl rfl Tryz.ntmps7 rfl fun v0 => ?_
 have hokA := chA_ok (ad := ad) hlen hlc hcap hs
 rcases hP : aO_ [(Ax.mk 6 true (Con.mk 0 [] 0 0 none 0 []) (Con.mk 0 [] 0 0 none 0 []) ad cap l s [] [])] with ⟨p, er⟩
 refine f_ (b_ (a_ (e_ rfl) rfl (d_ (c_ rfl (f_ (f_ (b_ (A_ (sane_c) rfl S_ (fun v _ h => by exact ⟨h.2.1, trivial⟩) rfl fun _ => ?_))))))))
 refine a_ (bf_ rfl) rfl (d_ (c_ rfl (r_ rfl (D_ (c_ rfl (f_ (f_ (b_ (a_ (g_ rfl) rfl ?_)))))))))
 refine a_ (ar_ J_ rfl) rfl (v_ (ce_ rfl rfl) rfl fun r1 hr1 => ?_)
 refine d_ (c_ rfl ?_)
 cases r1
 ·
  replace hr1 := of_decide_eq_false hr1
  refine r_ rfl (D_ (c_ rfl (f_ (b_ (a_ (g_ rfl) rfl (a_ (g_ rfl) rfl (a_ (N_ cp_ rfl rfl) rfl (an_ aT_ rfl fun b1 => ?_))))))))
  refine ah_ 0 ae_ rfl rfl rfl rfl rfl rfl (d_ (c_ rfl (f_ (f_ (b_ (a_ (G_ 0 bR_ ae_ rfl rfl rfl) rfl (A_ (ji_ (Ax.mk 6 true (Con.mk 0 [] 0 0 none 0 []) (Con.mk 0 [] 0 0 none 0 []) ad cap l s [] []) hokA) rfl S_ (fun v _ h => by exact ⟨⟨⟨.inl rfl, trivial⟩, ⟨.inl rfl, trivial⟩, h.1⟩, trivial⟩) rfl fun rf => ?_)))))))
  refine a_ (bf_ rfl) rfl (a_ (g_ rfl) rfl ?_)
  cases rf
  ·
   refine q_ rfl rfl rfl rfl (q_ rfl rfl rfl rfl (q_ rfl rfl rfl rfl (a_ (K_ rfl rfl) rfl (d_ (c_ rfl (p_ rfl (f_ (b_ (a_ (e_ rfl) rfl ?_)))))))))
   refine d_ (c_ rfl (B_ ?_))
   exact aj_ Tryz.results7 () rfl S_ (fun _ _ _ => trivial)
  ·
   refine n_ rfl rfl (a_ (G_ 0 bR_ ae_ rfl rfl rfl) rfl (n_ rfl rfl (A_ (dM_ (Ax.mk 6 true (Con.mk 0 [] 0 0 none 0 []) (Con.mk 0 [] 0 0 none 0 []) ad cap l s [] []) hokA) rfl S_ (fun v _ h => by exact ⟨⟨⟨.inl rfl, trivial⟩, ⟨.inl rfl, trivial⟩, h.1⟩, h.2.1, trivial⟩) rfl fun _ => ?_)))
   refine n_ rfl rfl (v_ (bO_ rfl rfl) rfl fun r2 hr2 => ?_)
   refine a_ (F_ rfl rfl) rfl (d_ (c_ rfl ?_))
   cases r2
   ·
    replace hr2 := bA_ hr2
    refine r_ rfl (D_ (c_ rfl (f_ (b_ (a_ (G_ 0 bR_ ae_ rfl rfl rfl) rfl (X_ bm_ ae_ aT_ rfl rfl rfl rfl rfl rfl fun b2 => ?_))))))
    refine at_ (List.flatMap Ax.cells [(Ax.mk 6 true (Con.mk 0 [] 0 0 none 0 []) (Con.mk 0 [] 0 0 none 0 []) ad cap l s [] [])]) h_ rfl ?_
    refine A_ (ik_ [(Ax.mk 6 true (Con.mk 0 [] 0 0 none 0 []) (Con.mk 0 [] 0 0 none 0 []) ad cap l s [] [])] (some ⟨b2, 0, none⟩) 1 ⟨by simp, by decide⟩ (fun y hy => by simp only [List.mem_cons, List.not_mem_nil, or_false] at hy; subst hy; exact hokA) hP) rfl S_ (fun v _ h => by exact ⟨⟨h.1, fun y hy => by simp only [List.mem_cons, List.not_mem_nil, or_false] at hy; rcases hy with rfl; exact ⟨⟨.inl rfl, trivial⟩, ⟨.inl rfl, trivial⟩, h.2.1⟩⟩, h.2.2.1, trivial⟩) rfl fun ⟨⟨ap, cpp⟩, hap⟩ => ?_
    dsimp only
    have hck : Ax.check (Ax.mk 6 true (Con.mk 0 [] 0 0 none 0 []) (Con.mk 0 [] 0 0 none 0 []) ad cap l s [] []) = 0 := by omega
    have hG := Ax.good_of hck
    have hch := hG.chain rfl
    have hpl := hG.roles
    have hro := hG.role (by simp)
    dsimp only at hch hpl hro
    rw [il_, if_pos hck] at hP
    obtain ⟨rfl, rfl⟩ := Prod.mk.inj hP
    have hcp := lj_ (l := l) (s := s) (ad := ad) (cap := cap) hch.1 hch.2
    have hll : ∀ r ∈ l, r.length ≤ 1000 := fun r hr => by have := gz_ (hpl r hr); omega
    have hls : s.length ≤ 1000 := by have := gz_ hro; omega
    have hpn := hcp.1
    refine ok_get (fun v h1 h => (fun q => absurd (jR_ (by have z : (bQ_ ad (List.flatMap cn_ l)).p v := (by exact h.2.2.1); rw [q] at z; exact z)) (by intro e; cases l with | nil => simp at hch | cons a t => simp [cn_] at e) : ad = none → cap = 0)) fun hwz => ?_
    refine a_ (g_ rfl) rfl (a_ (aD_ rfl rfl) rfl (a_ (aD_ rfl rfl) rfl (a_ (e_ rfl) rfl (a_ (e_ rfl) rfl (d_ (c_ rfl (f_ (f_ (b_ ?_)))))))))
    refine a_ (g_ rfl) rfl (a_ (bB_ (bO_ rfl rfl) (show _ = Value.bool false from congrArg Value.bool (by decide))) rfl (a_ (g_ rfl) rfl (n_ rfl rfl (a_ (g_ rfl) rfl (n_ rfl rfl (a_ (ar_ I_ rfl) rfl (n_ rfl rfl (a_ (g_ rfl) rfl (n_ rfl rfl ?_)))))))))
    refine a_ (ar_ J_ rfl) rfl (n_ rfl rfl (a_ (R_ rfl rfl rfl (aq_ (by omega) (by omega))) rfl (n_ rfl rfl (v_ (bO_ rfl rfl) rfl fun r3 hr3 => ?_))))
    refine a_ (F_ rfl rfl) rfl (d_ (c_ rfl ?_))
    cases r3
    ·
     replace hr3 := bA_ hr3
     refine r_ rfl (D_ (c_ rfl (f_ ?_)))
     have hlq0 : 0 < List.length l := by omega
     obtain ⟨q0, hq0⟩ : ∃ e0, l[0]? = some e0 := ⟨_, List.getElem?_eq_getElem hlq0⟩
     have hmq0 : q0 ∈ l := List.mem_of_getElem? hq0
     refine b_ (a_ (g_ rfl) rfl (a_ (am_ J_ z_ rfl rfl (fun v _ h => aS_ (n := 1) aM_ (by decide) (by exact h.2.2.1) hq0) (by omega) (by first | omega | (simp; done))) rfl (a_ (bw_ (ad := ad) E_ rfl (fun v _ h => by exact h.2.2.1) (ao_ aM_ hq0 0 _ rfl)) rfl (a_ (e_ rfl) rfl (d_ (c_ rfl (f_ (f_ (b_ ?_)))))))))
     refine a_ (e_ rfl) rfl (d_ (c_ rfl (T_ ?_)))
     have hz0 : q0 = chT l s 0 := (lk_ hch.1 hq0).symm
     refine bs_ [(0, .slice ad (List.length l) cap), (1, str s), (5, zp_ b1 0), (6, .slice ap (List.length (Ax.pieces 0 (Ax.mk 6 true (Con.mk 0 [] 0 0 none 0 []) (Con.mk 0 [] 0 0 none 0 []) ad cap l s [] []))) cpp), (8, str (chT l s 0)), (9, .int .i64 ((0 : Nat) : Int))] ⟨rfl, rfl, rfl, rfl, cf_ rfl hz0, rfl, trivial⟩ ?_
     refine ch_ (ι := {y : Nat // y + 1 ≤ List.length l}) (fun y => [(0, .slice ad (List.length l) cap), (1, str s), (5, zp_ b1 0), (6, .slice ap (List.length (Ax.pieces 0 (Ax.mk 6 true (Con.mk 0 [] 0 0 none 0 []) (Con.mk 0 [] 0 0 none 0 []) ad cap l s [] []))) cpp), (8, str (chT l s y.1)), (9, .int .i64 (y.1 : Int))]) (fun y => ((b1, .cells #[.int .i64 6, .bool true, .int .i64 0, str [], .int .i64 0, .int .i64 0, .slice none 0 0, .int .i64 0, str [], .int .i64 0, .int .i64 0, .slice none 0 0, .slice ad (List.length l) cap, str s, str [], str []] 41 (0, 0)) :: [])) (fun y => [bQ_ ap (List.flatMap Pc.cells (Ax.pieces 0 (Ax.mk 6 true (Con.mk 0 [] 0 0 none 0 []) (Con.mk 0 [] 0 0 none 0 []) ad cap l s [] []))), bQ_ (some ⟨b2, 0, none⟩) (List.flatMap Ax.cells [(Ax.mk 6 true (Con.mk 0 [] 0 0 none 0 []) (Con.mk 0 [] 0 0 none 0 []) ad cap l s [] [])]), bQ_ ad (List.flatMap cn_ l), bH_]) (fun y => List.length l - y.1) ⟨(0 : Nat), by omega⟩ ⟨rfl, rfl, rfl, rfl, rfl, rfl, trivial⟩ h_ (fun _ _ h => h) ?_
     rintro ⟨i, hi⟩
     dsimp only at hi ⊢
     refine f_ (f_ (b_ (a_ (g_ rfl) rfl (a_ (g_ rfl) rfl (a_ (ar_ I_ rfl) rfl (v_ (aN_ rfl rfl) rfl fun r4 hr4 => ?_))))))
     refine d_ (c_ rfl ?_)
     cases r4
     ·
      replace hr4 := of_decide_eq_false hr4
      refine r_ rfl (aU_ rfl (c_ rfl (f_ (b_ (a_ (G_ 0 bR_ ae_ rfl rfl rfl) rfl (X_ bm_ ae_ aT_ rfl rfl rfl rfl rfl rfl fun b3 => ?_))))))
      refine at_ (List.flatMap Ax.cells [(Ax.mk 6 true (Con.mk 0 [] 0 0 none 0 []) (Con.mk 0 [] 0 0 none 0 []) ad cap l s [] [])]) h_ rfl ?_
      refine a_ (g_ rfl) rfl (a_ (g_ rfl) rfl (A_ (word_c [(Ax.mk 6 true (Con.mk 0 [] 0 0 none 0 []) (Con.mk 0 [] 0 0 none 0 []) ad cap l s [] [])] (some ⟨b3, 0, none⟩) 1 (fun y hy => by simp only [List.mem_cons, List.not_mem_nil, or_false] at hy; subst hy; exact hokA) (fun y hy => by simp only [List.mem_cons, List.not_mem_nil, or_false] at hy; subst hy; exact hck) (fun y hy => by simp only [List.mem_cons, List.not_mem_nil, or_false] at hy; subst hy; exact rfl) (by simp) l ad cap hlc hwz hch.2 hch.1 s (Ax.mk 6 true (Con.mk 0 [] 0 0 none 0 []) (Con.mk 0 [] 0 0 none 0 []) ad cap l s [] []) (by simp) rfl rfl (fun y hy => by rcases hy with rfl | hy; omega; have := hll y hy; omega) (fun y hy => by rcases hy with rfl | hy; exact eK_ hro; exact eK_ (hpl y hy))) rfl S_ (fun v _ h => by exact ⟨⟨h.1, fun y hy => by simp only [List.mem_cons, List.not_mem_nil, or_false] at hy; rcases hy with rfl; exact ⟨⟨.inl rfl, trivial⟩, ⟨.inl rfl, trivial⟩, h.2.2.2.1⟩⟩, h.2.2.2.1, h.2.2.2.2.1, trivial⟩) rfl fun _ => ?_))
      refine a_ (g_ rfl) rfl (a_ (aD_ rfl rfl) rfl (a_ (aD_ rfl rfl) rfl (a_ (e_ rfl) rfl (a_ (e_ rfl) rfl (d_ (c_ rfl (f_ (b_ (a_ (g_ rfl) rfl ?_)))))))))
      refine a_ (g_ rfl) rfl (v_ (aV_ rfl rfl) rfl fun r5 hr5 => ?_)
      refine a_ (g_ rfl) rfl ?_
      cases r5
      ·
       replace hr5 := ne_of_beq_false hr5
       exfalso; exact hr5 (iL_ (by omega))
      ·
       replace hr5 := eq_of_beq hr5
       refine n_ rfl rfl (a_ (g_ rfl) rfl (a_ (K_ rfl rfl) rfl (a_ (g_ rfl) rfl (n_ rfl rfl (a_ (g_ rfl) rfl (n_ rfl rfl (a_ (bB_ (ai_ rfl rfl) (show _ = Value.bool true from congrArg Value.bool (by decide))) rfl (a_ (K_ rfl rfl) rfl (a_ (e_ rfl) rfl ?_)))))))))
       refine d_ (c_ rfl (B_ ?_))
       exact aj_ Tryz.results7 () rfl S_ (fun _ _ _ => trivial)
     ·
      replace hr4 := of_decide_eq_true hr4
      have hlx1 : i < List.length (Ax.pieces 0 (Ax.mk 6 true (Con.mk 0 [] 0 0 none 0 []) (Con.mk 0 [] 0 0 none 0 []) ad cap l s [] [])) := by omega
      obtain ⟨x1, hx1⟩ : ∃ e0, (Ax.pieces 0 (Ax.mk 6 true (Con.mk 0 [] 0 0 none 0 []) (Con.mk 0 [] 0 0 none 0 []) ad cap l s [] []))[i]? = some e0 := ⟨_, List.getElem?_eq_getElem hlx1⟩
      have hmx1 : x1 ∈ (Ax.pieces 0 (Ax.mk 6 true (Con.mk 0 [] 0 0 none 0 []) (Con.mk 0 [] 0 0 none 0 []) ad cap l s [] [])) := List.mem_of_getElem? hx1
      have hlq1 : (i + 1) < List.length l := by omega
      obtain ⟨q1, hq1⟩ : ∃ e0, l[(i + 1)]? = some e0 := ⟨_, List.getElem?_eq_getElem hlq1⟩
      have hmq1 : q1 ∈ l := List.mem_of_getElem? hq1
      have hx : x1 = ⟨6, [], [], [], chT l s i, q1, chT l s (i + 1), 0, 0, 0⟩ := by have q := hcp.2 i (by omega); rw [hx1] at q; simp only [Option.some.injEq] at q; rw [q]; simp [List.getD, hq1]
      refine p_ rfl (D_ (c_ rfl (f_ (T_ (f_ (f_ ?_))))))
      refine br_ (by kernel_rfl) ?_
      refine ab_ 45 [0, 1, 2, 3, 4, 5, 6] (by kernel_rfl) (fun _ a b => ⟨a, b⟩) (s_ rfl (g_ rfl) rfl (s_ rfl (g_ rfl) rfl (s_ rfl (am_ I_ U_ rfl rfl (fun v _ h => aS_ (n := 10) Pc.cells_len (by decide) (by exact h.1) hx1) (by omega) (by first | omega | (simp; done))) rfl (s_ rfl (dd_ V_ rfl rfl rfl L_) rfl (s_ rfl (bw_ (ad := ap) O_ rfl (fun v _ h => by exact h.1) (ao_ Pc.cells_len hx1 0 _ rfl)) rfl ?_)))))
      refine gg_ rfl (bO_ rfl rfl) rfl fun r6 hr6 => ?_
      refine s_ rfl (g_ rfl) rfl (aa_ ?_)
      cases r6
      ·
       replace hr6 := bA_ hr6
       refine ab_ 36 [7, 8, 9, 10, 11, 12, 13, 14, 15] (by kernel_rfl) (fun _ a b => ⟨a, b⟩) (aR_ rfl rfl rfl (g_ rfl) rfl (aR_ rfl rfl rfl (g_ rfl) rfl (aR_ rfl rfl rfl (am_ I_ U_ rfl rfl (fun v _ h => aS_ (n := 10) Pc.cells_len (by decide) (by exact h.1) hx1) (by omega) (by first | omega | (simp; done))) rfl (aR_ rfl rfl rfl (dd_ V_ rfl rfl rfl z_) rfl (aR_ rfl rfl rfl (bw_ (ad := ap) E_ rfl (fun v _ h => by exact h.1) (ao_ Pc.cells_len hx1 4 _ rfl)) rfl (aR_ rfl rfl rfl (g_ rfl) rfl ?_))))))
       refine el_ rfl rfl rfl (fq_ rfl rfl) rfl fun r7 hr7 => ?_
       refine s_ rfl (F_ rfl rfl) rfl (s_ rfl (g_ rfl) rfl (aa_ ?_))
       cases r7
       ·
        replace hr7 := bA_ hr7
        refine ab_ 23 [16, 17, 18, 19, 20, 21, 22, 23, 24, 25, 26, 27, 28] (by kernel_rfl) (fun _ a b => ⟨a, b⟩) (aR_ rfl rfl rfl (g_ rfl) rfl (aR_ rfl rfl rfl (g_ rfl) rfl (aR_ rfl rfl rfl (am_ I_ U_ rfl rfl (fun v _ h => aS_ (n := 10) Pc.cells_len (by decide) (by exact h.1) hx1) (by omega) (by first | omega | (simp; done))) rfl (aR_ rfl rfl rfl (dd_ V_ rfl rfl rfl z_) rfl (aR_ rfl rfl rfl (bw_ (ad := ap) E_ rfl (fun v _ h => by exact h.1) (ao_ Pc.cells_len hx1 5 _ rfl)) rfl (aR_ rfl rfl rfl (g_ rfl) rfl (aR_ rfl rfl rfl (g_ rfl) rfl (aR_ rfl rfl rfl (R_ rfl rfl rfl (aq_ (by omega) (by omega))) rfl (aR_ rfl rfl rfl (am_ J_ z_ rfl rfl (fun v _ h => aS_ (n := 1) aM_ (by decide) (by exact h.2.2.1) hq1) (by omega) (by first | omega | (simp; done))) rfl ?_)))))))))
        refine aR_ rfl rfl rfl (bw_ (ad := ad) E_ rfl (fun v _ h => by exact h.2.2.1) (ao_ aM_ hq1 0 _ rfl)) rfl ?_
        refine el_ rfl rfl rfl (fq_ rfl rfl) rfl fun r8 hr8 => ?_
        refine s_ rfl (F_ rfl rfl) rfl (s_ rfl (g_ rfl) rfl (aa_ ?_))
        cases r8
        ·
         replace hr8 := bA_ hr8
         refine ab_ 9 [29, 30, 31, 32, 33, 34, 35, 36, 37, 38, 39, 40, 41, 42] (by kernel_rfl) (fun _ a b => ⟨a, b⟩) (aR_ rfl rfl rfl (g_ rfl) rfl (aR_ rfl rfl rfl (g_ rfl) rfl (aR_ rfl rfl rfl (am_ I_ U_ rfl rfl (fun v _ h => aS_ (n := 10) Pc.cells_len (by decide) (by exact h.1) hx1) (by omega) (by first | omega | (simp; done))) rfl (aR_ rfl rfl rfl (dd_ V_ rfl rfl rfl z_) rfl (aR_ rfl rfl rfl (bw_ (ad := ap) E_ rfl (fun v _ h => by exact h.1) (ao_ Pc.cells_len hx1 6 _ rfl)) rfl (aR_ rfl rfl rfl (g_ rfl) rfl ?_))))))
         refine el_ rfl rfl rfl (aV_ rfl rfl) rfl fun r9 hr9 => ?_
         refine aR_ rfl rfl rfl (g_ rfl) rfl (aR_ rfl rfl rfl (g_ rfl) rfl (aR_ rfl rfl rfl (ar_ I_ rfl) rfl (aR_ rfl rfl rfl (R_ rfl rfl rfl (aq_ (by omega) (by omega))) rfl ?_)))
         refine el_ rfl rfl rfl (ai_ rfl rfl) rfl fun r10 hr10 => ?_
         refine el_ rfl rfl rfl (kq_ Tryz.underlying4 rfl rfl) rfl fun r11 hr11 => ?_
         refine aR_ rfl rfl rfl (g_ rfl) rfl (aa_ ?_)
         cases r11
         ·
          refine ab_ 0 [43, 44, 45, 46, 47, 48, 49, 50, 51] (by kernel_rfl) (fun _ a b => ⟨a, b⟩) (gr_ rfl rfl rfl rfl rfl (gr_ rfl rfl rfl rfl rfl (gr_ rfl rfl rfl rfl rfl (gr_ rfl rfl rfl rfl rfl (gr_ rfl rfl rfl rfl rfl (gr_ rfl rfl rfl rfl rfl (gr_ rfl rfl rfl rfl rfl (aR_ rfl rfl rfl (F_ rfl rfl) rfl (s_ rfl (F_ rfl rfl) rfl ?_)))))))))
          refine aa_ (ad_ (by kernel_rfl) (c_ rfl (r_ rfl (D_ (c_ rfl (b_ (a_ (g_ rfl) rfl (a_ (g_ rfl) rfl (a_ (am_ I_ U_ rfl rfl (fun v _ h => aS_ (n := 10) Pc.cells_len (by decide) (by exact h.1) hx1) (by omega) (by first | omega | (simp; done))) rfl ?_)))))))))
          refine a_ (dd_ V_ rfl rfl rfl z_) rfl (a_ (bw_ (ad := ap) E_ rfl (fun v _ h => by exact h.1) (ao_ Pc.cells_len hx1 6 _ rfl)) rfl (a_ (e_ rfl) rfl (d_ (c_ rfl (b_ (a_ (g_ rfl) rfl (a_ (R_ rfl rfl rfl (aq_ (by omega) (by omega))) rfl (a_ (e_ rfl) rfl (d_ ?_)))))))))
          refine o_ rfl ?_
          exact av_ ⟨i + 1, by omega⟩ (by dsimp only; omega) ⟨rfl, rfl, rfl, rfl, cf_ rfl (by rw [hx]), rfl, trivial⟩ h_ (fun _ _ h => h)
         ·
          refine ab_ 4 [43, 44, 45, 46, 47] (by kernel_rfl) (fun _ a b => ⟨a, b⟩) (aR_ rfl rfl rfl (g_ rfl) rfl (aR_ rfl rfl rfl (g_ rfl) rfl (aR_ rfl rfl rfl (am_ I_ U_ rfl rfl (fun v _ h => aS_ (n := 10) Pc.cells_len (by decide) (by exact h.1) hx1) (by omega) (by first | omega | (simp; done))) rfl (aR_ rfl rfl rfl (dd_ V_ rfl rfl rfl z_) rfl (aR_ rfl rfl rfl (bw_ (ad := ap) E_ rfl (fun v _ h => by exact h.1) (ao_ Pc.cells_len hx1 6 _ rfl)) rfl (aa_ (H_ 48 rfl (by kernel_rfl) (n_ rfl rfl (A_ (dE_ (Pc.t x1) (by rw [hx]; exact lM_ hll hls hch.2)) rfl S_ (fun _ _ _ => by exact trivial) rfl fun _ => ?_)))))))))
          refine d_ (o_ rfl (u_ (fun _ a b => ⟨a, b⟩) (ab_ 0 [49, 50, 51] (by kernel_rfl) (fun _ a b => ⟨a, b⟩) ?_)))
          refine el_ rfl rfl rfl (ai_ rfl rfl) rfl fun r12 hr12 => ?_
          refine aR_ rfl rfl rfl (K_ rfl rfl) rfl (s_ rfl (F_ rfl rfl) rfl (aa_ (ad_ (by kernel_rfl) (c_ rfl ?_))))
          cases r12
          ·
           replace hr12 := ne_of_beq_false hr12
           refine r_ rfl (D_ (c_ rfl (b_ (a_ (g_ rfl) rfl (a_ (g_ rfl) rfl (a_ (am_ I_ U_ rfl rfl (fun v _ h => aS_ (n := 10) Pc.cells_len (by decide) (by exact h.1) hx1) (by omega) (by first | omega | (simp; done))) rfl (a_ (dd_ V_ rfl rfl rfl z_) rfl (a_ (bw_ (ad := ap) E_ rfl (fun v _ h => by exact h.1) (ao_ Pc.cells_len hx1 6 _ rfl)) rfl (a_ (e_ rfl) rfl ?_)))))))))
           refine d_ (c_ rfl (b_ (a_ (g_ rfl) rfl (a_ (R_ rfl rfl rfl (aq_ (by omega) (by omega))) rfl (a_ (e_ rfl) rfl (d_ (o_ rfl ?_)))))))
           exact av_ ⟨i + 1, by omega⟩ (by dsimp only; omega) ⟨rfl, rfl, rfl, rfl, cf_ rfl (by rw [hx]), rfl, trivial⟩ h_ (fun _ _ h => h)
          ·
           replace hr12 := eq_of_beq hr12
           exfalso; rcases Nat.lt_or_ge (i + 2) (List.length l) with q | q; (rw [hx] at hr12; dsimp only at hr12; rw [lL_ (by omega) q] at hr12; simp at hr12); (have e1 : Pc.t x1 = s := (by rw [hx]; exact iL_ (by omega)); have e2 : (i : Int) = (List.length (Ax.pieces 0 (Ax.mk 6 true (Con.mk 0 [] 0 0 none 0 []) (Con.mk 0 [] 0 0 none 0 []) ad cap l s [] [])) : Int) - 1 := (by omega); rw [e1] at hr9; rw [e2] at hr10; simp only [BEq.rfl] at hr9 hr10; subst hr9; subst hr10; simp at *)
        ·
         replace hr8 := bz_ hr8
         exfalso; exact hr8 (by rw [hx])
       ·
        replace hr7 := bz_ hr7
        exfalso; exact hr7 (by rw [hx])
      ·
       replace hr6 := bz_ hr6
       exfalso; exact hr6 (by rw [hx])
    ·
     replace hr3 := bz_ hr3
     exfalso; omega
   ·
    replace hr2 := bz_ hr2
    refine p_ rfl (f_ (b_ (a_ (e_ rfl) rfl (d_ (c_ rfl (B_ ?_))))))
    exact aj_ Tryz.results7 () rfl S_ (fun _ _ _ => trivial)
 ·
  replace hr1 := of_decide_eq_true hr1
  refine p_ rfl (f_ (b_ (a_ (e_ rfl) rfl (d_ (c_ rfl (B_ ?_))))))
  exact aj_ Tryz.results7 () rfl S_ (fun _ _ _ => trivial)
end Go.Proofs.YtoafjmalfclpoaaGreatDoor
