/-
  Part of the proof of the law NormalLists over this seat (no condition).
-/
import Derived.Test.YtoafjmalfclpoaaGreatDoorQNormalLists1
import Derived.Laws.OwnMore
set_option linter.unusedVariables false
set_option linter.unusedSimpArgs false
set_option linter.unusedSectionVars false
/-
  Rules for appending a row that lasts; plain laws for the row NormalLists: the reference's atoms, roles, pieces and sorted insertion.
-/
namespace Go.Sx
open Go
section
variable {P : Program} {N : Nat} {v0 : Vw} {H0 : Hp} {R : Exit → Act → World → Prop} {K : List Kt} {fr : Fr} {H : Hp} {Γ : List Fct}
variable {ops : Array Oper} {l : List Oper} {d : Nat} {ty : TypeId} {ps : String} {af : Array Edge}
/-- append of a row that lasts; it may be nil -/
theorem ops_appendR {x y : Operand} {t e : TypeId} {sz by' n m c : Nat} {sv : Value} {xs news : List Value} {Hr F : Hp} {ad : Option Addr} (he : Elt P t e sz by') (hrow : SRow e sz sv n xs Hr)
    (hx : Fr.ev fr x = some sv) (hy : Fr.ev fr y = some (.slice ad m c)) (hz : ad = none → c = 0) (hmc : m ≤ c) (hH : H.Perm (Hr ++ F)) (hl : news.length = m * sz) (hnews : ∀ v, v.sat H → holds Γ v → RowAt v ad news) (h1c : ∀ u ∈ news, u.oneCell' = true)
    (h63 : n + m ≤ maxLen) (hb : (n + m) * by' ≤ 140737488355328) (hN : Nat.blt d N = true)
    (hk : ∀ sv' Hr', SRow e sz sv' (n + m) (xs ++ news) Hr' → Ops P R N v0 H0 ops l K ((d, sv') :: fr) (Hr' ++ F) Γ) :
    Ops P R N v0 H0 ops (⟨some d, .call ⟨.builtin .append, #[x, y], #[t, t]⟩, ty, ps, af, none⟩ :: l) K fr H Γ := by
  cases ad with
  | none =>
    obtain rfl := hz rfl
    obtain rfl : m = 0 := by omega
    obtain rfl : news = [] := List.eq_nil_of_length_eq_zero (by simpa using hl)
    refine ops_of_wp rfl fun a v h1 h2 h3 h4 => ?_
    obtain ⟨i, z, hi, hz, es, eb, ez⟩ := he.info
    have g := h2.perm hH
    have ho := hrow.owns g
    have hr := run_append_owned_none (P := P) (w := v.w) 0 t ty e i sz he.und hi sv n xs ho
    unfold Oper.wp execOp
    simp only [resolve, invoke, builtin, Sem.run_bind, Sem.run_pure, Result.andThen_ok, List.map_toArray, List.map_cons, List.map_nil, h1.ev hx, h1.ev hy, hr]
    have T : v.to H v (Hr ++ F) := (Vw.to.refl v (Hr ++ F)).permL hH.symm
    exact hk sv Hr (by simpa using hrow) _ v (h1.put hN) g (h3.trans T) h4
  | some a0 =>
    refine ops_append he hrow hx hy hH hl (fun v h2 h4 j u hj => ?_) h1c h63 hb hN hk
    rcases hnews v h2 h4 with h | ⟨b, off, arr, T, fz, h1, _, h3, h5⟩
    · rw [h] at hj; simp at hj
    · rw [Option.some.injEq] at h1
      subst h1
      have := h5 j u hj
      rw [addr_add]
      simp [World.cell?, h3, this]
theorem ops_slit0 {t e : TypeId} {sz : Nat} (hu : ∀ w, (underlying t).run P w = .ok (.slice e) w) (hs : ∀ w, (sizeOf e).run P w = .ok sz w) (hN : Nat.blt d N = true)
    (hk : ∀ b, Ops P R N v0 H0 ops l K ((d, .slice (some ⟨b, 0, none⟩) 0 0) :: fr) ((b, .cells #[] e (0, 0)) :: H) Γ) : Ops P R N v0 H0 ops (⟨some d, .buildSlice t 0 #[], ty, ps, af, none⟩ :: l) K fr H Γ :=
  ops_new (x := fun b => .slice (some ⟨b, 0, none⟩) 0 0) hN (fun a v h1 h2 h4 => by
    simp only [execOp, Instr.buildSlice, Sem.run_bind, hu, Result.andThen_ok, hs, List.map_toArray]
    rw [if_neg (by omega), if_pos (by omega), Nat.zero_mul, show Array.range 0 = #[] by simp]
    simp only [Sem.run_bind, Sem.run_pure, Result.andThen_ok, List.map_nil, List.map_toArray, List.toList_toArray, Instr.fill]
    rfl) hk
theorem ok_giveRowN {k : Act → World → Prop} {e : TypeId} {sz n : Nat} {sv : Value} {xs : List Value} {Hr F : Hp} (hr : SRow e sz sv n xs Hr) (hH : H.Perm (Hr ++ F))
    (h : ∀ ad cap, sv = .slice ad n cap → n ≤ cap → cap ≤ maxLen → (ad = none → cap = 0) → Ok N v0 H0 k fr F (rowF ad xs :: Γ)) : Ok N v0 H0 k fr H Γ := by
  refine ok_giveRow hr hH fun ad cap e1 e2 e3 => h ad cap e1 e2 e3 fun e4 => ?_
  rcases hr.2 with ⟨h1, _, _⟩ | ⟨g, c, cur, h1, _⟩
  · rw [h1] at e1
    simp only [Value.slice.injEq] at e1
    exact e1.2.2.symm
  · rw [h1, e4] at e1
    simp at e1
theorem sad_none {cap i n : Nat} {ad : Option Addr} (h : sad ad cap i n = none) : ad = none := by
  unfold sad at h
  split at h
  · exact h
  · simpa using h
end
end Go.Sx
namespace Go.Vs
open Go Go.Sx
theorem pn_eq (s : Str) : ((if personS s then (0 : Int) else 20) == 0) = personS s := by cases personS s <;> rfl
theorem pn_ne (s : Str) : ((if personS s then (0 : Int) else 20) != 0) = !personS s := by cases personS s <;> rfl
-- valid pieces, kind by kind
section
variable {a b c r s t : Str} {lo hi f : Int}
theorem vp_no (k : Int) (hk : k ≠ 1 ∧ k ≠ 2 ∧ k ≠ 3 ∧ k ≠ 4 ∧ k ≠ 5 ∧ k ≠ 6 ∧ k ≠ 7 ∧ k ≠ 8 ∧ k ≠ 9) : Pc.valid ⟨k, a, b, c, r, s, t, lo, hi, f⟩ = false := by
  unfold Pc.valid
  rw [if_pos (by dsimp only; omega)]
theorem vp_gen (k : Int) (u : NUse) (hu : nus k = u) (h1 : ¬(k < 1 ∨ 9 < k ∨ f < -1 ∨ 1024 ≤ f)) : Pc.valid ⟨k, a, b, c, r, s, t, lo, hi, f⟩ = true ↔
    ((u.numbers = true → -1099511627776 ≤ lo ∧ lo ≤ hi ∧ hi ≤ 1099511627776) ∧ (u.numbers = false → lo = 0 ∧ hi = 0)) ∧ (((((fldS u.a a atomS = true ∧ fldS u.b b atomS = true) ∧ fldS u.c c atomS = true) ∧ fldS u.r r (if u.numbers then personS else roleS) = true) ∧ fldS u.s s roleS = true) ∧ fldS u.t t roleS = true) := by
  unfold Pc.valid
  dsimp only
  rw [if_neg h1, hu]
  by_cases h2 : u.numbers = true ∧ (lo < -1099511627776 ∨ hi < lo ∨ 1099511627776 < hi)
  · rw [if_pos h2]
    constructor
    · intro h; cases h
    · rintro ⟨⟨q, _⟩, _⟩
      have := q h2.1
      omega
  · rw [if_neg h2]
    by_cases h3 : u.numbers = false ∧ (lo ≠ 0 ∨ hi ≠ 0)
    · rw [if_pos h3]
      constructor
      · intro h; cases h
      · rintro ⟨⟨_, q⟩, _⟩
        have := q h3.1
        omega
    · rw [if_neg h3]
      simp only [Bool.and_eq_true]
      constructor
      · intro h
        refine ⟨⟨fun q => ?_, fun q => ?_⟩, h⟩
        · have : ¬ (lo < -1099511627776 ∨ hi < lo ∨ 1099511627776 < hi) := fun e => h2 ⟨q, e⟩
          omega
        · have : ¬ (lo ≠ 0 ∨ hi ≠ 0) := fun e => h3 ⟨q, e⟩
          omega
      · exact fun h => h.2
theorem fld_t (s : Str) (q : Str → Bool) : (fldS true s q = true) = (q s = true) := by simp [fldS]
theorem fld_f (s : Str) (q : Str → Bool) : (fldS false s q = true) = (s = []) := by simp [fldS]
end
-- atoms
def ratomS (s : Str) : Bool :=
  (s == [42] || s == [33]) || personS s || (decide (3 ≤ s.length) && ((decide (s[0]? = some 123) && decide (s[s.length - 1]? = some 125) && personS ((s.drop 1).take (s.length - 1 - 1))) || (decide (s[0]? = some 60) && decide (s[s.length - 1]? = some 62))))
theorem person_head {s : Str} (h : personS s = true) : ∃ c t, s = c :: t ∧ (letterS c = true ∨ c.toNat = 95) := by
  unfold personS at h
  rw [Bool.or_eq_true] at h
  rcases h with h | h
  · obtain ⟨c, t, e, h2⟩ := plain_head h
    exact ⟨c, t, e, .inl h2⟩
  · unfold reservedS at h
    simp only [Bool.and_eq_true, decide_eq_true_eq] at h
    cases s with
    | nil => simp at h
    | cons c t => exact ⟨c, t, rfl, .inr (by simpa using h.1.2)⟩
theorem person_no {s : Str} {c : UInt8} (h0 : s[0]? = some c) (h : c = 123 ∨ c = 60) : personS s = false := by
  cases hp : personS s with
  | false => rfl
  | true =>
    obtain ⟨d, t, rfl, h2⟩ := person_head hp
    simp only [List.getElem?_cons_zero, Option.some.injEq] at h0
    subst h0
    rcases h with rfl | rfl <;> simp [letterS] at h2
theorem ratom_eq (s : Str) : ratomS s = atomS s := by
  unfold ratomS atomS
  by_cases h1 : s = [42] ∨ s = [33]
  · rw [if_pos h1]
    rcases h1 with rfl | rfl <;> rfl
  · rw [if_neg h1]
    have e1 : (s == [42] || s == [33]) = false := by
      rw [Bool.or_eq_false_iff]
      exact ⟨beq_eq_false_iff_ne.2 fun e => h1 (.inl e), beq_eq_false_iff_ne.2 fun e => h1 (.inr e)⟩
    rw [e1, Bool.false_or]
    by_cases h2 : s[0]? = some 123
    · have hp := person_no h2 (.inl rfl)
      rw [hp, Bool.false_or]
      by_cases h3 : s[s.length - 1]? = some 125
      · by_cases hl : 2 ≤ s.length
        · rw [if_pos ⟨hl, h2, h3⟩]
          by_cases h4 : 3 ≤ s.length
          · simp [h2, h3, h4]
          · have : s.length = 2 := by omega
            have hq : personS (List.take (s.length - 1 - 1) (List.drop 1 s)) = false := by rw [this]; rfl
            rw [hq]; simp [h4]
        · rw [if_neg (by simp [hl]), if_neg (by simp; omega)]
          simp [show ¬ 3 ≤ s.length by omega]
      · rw [if_neg (by simp [h3]), if_neg (by simp [h2])]
        simp [h2, h3]
    · rw [if_neg (by simp [h2])]
      by_cases h5 : 3 ≤ s.length ∧ s[0]? = some 60 ∧ s[s.length - 1]? = some 62
      · rw [if_pos h5]
        simp [h5.1, h5.2.1, h5.2.2]
      · rw [if_neg h5]
        have : (decide (3 ≤ s.length) && ((decide (s[0]? = some 123) && decide (s[s.length - 1]? = some 125) && personS ((s.drop 1).take (s.length - 1 - 1))) || (decide (s[0]? = some 60) && decide (s[s.length - 1]? = some 62)))) = false := by
          rw [show decide (s[0]? = some 123) = false from decide_eq_false h2]
          simp only [Bool.false_and, Bool.false_or]
          rw [Bool.eq_false_iff]
          intro h
          simp only [Bool.and_eq_true, decide_eq_true_eq] at h
          exact h5 ⟨h.1, h.2.1, h.2.2⟩
        rw [this, Bool.or_false]
-- roles
structure RInv (s : Str) (a i : Nat) (dn : List Str) : Prop where
  le : a ≤ i
  il : i ≤ s.length
  no : ixS 46 ((s.drop a).take (i - a)) = none
  sp : splitS 46 s = dn ++ splitS 46 (s.drop a)
  al : dn.all personS = true
structure REnd (s : Str) (i : Nat) (dn : List Str) : Prop where
  il : i = s.length + 1
  sp : splitS 46 s = dn
  al : dn.all personS = true
def segS (s : Str) (a i : Nat) : Str := (s.drop a).take (i - a)
theorem RInv.start (s : Str) : RInv s 0 0 [] := ⟨Nat.le_refl _, Nat.zero_le _, by simp [ixS], by simp, rfl⟩
theorem RInv.len {s : Str} {a i : Nat} {dn : List Str} (h : RInv s a i dn) : dn.length ≤ s.length + 1 := by
  have h1 := splitS_len 46 s
  have h2 := cntS_le 46 s
  rw [h.sp, List.length_append] at h1
  omega
theorem REnd.len {s : Str} {i : Nat} {dn : List Str} (h : REnd s i dn) : dn.length ≤ s.length + 1 := by
  have h1 := splitS_len 46 s
  have h2 := cntS_le 46 s
  rw [h.sp] at h1
  omega
theorem RInv.next {s : Str} {a i : Nat} {dn : List Str} {c : UInt8} (h : RInv s a i dn) (hc : s[i]? = some c) (hne : c ≠ 46) : RInv s a (i + 1) dn := by
  have hi := (List.getElem?_eq_some_iff.1 hc).1
  have hle := h.le
  refine ⟨by omega, by omega, ?_, h.sp, h.al⟩
  rw [show i + 1 - a = (i - a) + 1 by omega]
  exact ixS_step (s.drop a) (i - a) c (by rw [List.getElem?_drop, show a + (i - a) = i by omega]; exact hc) h.no hne
theorem RInv.dot {s : Str} {a i : Nat} {dn : List Str} (h : RInv s a i dn) (hc : s[i]? = some 46) : splitS 46 s = dn ++ segS s a i :: splitS 46 (s.drop (i + 1)) := by
  have hle := h.le
  have h2 := ixS_at (s.drop a) (i - a) (by rw [List.getElem?_drop, show a + (i - a) = i by omega]; exact hc) h.no
  rw [h.sp, splitS_some h2, List.drop_drop, show a + (i - a + 1) = i + 1 by omega]
  rfl
theorem RInv.fin {s : Str} {a i : Nat} {dn : List Str} (h : RInv s a i dn) (hi : ¬ i < s.length) : splitS 46 s = dn ++ [segS s a i] := by
  have hle := h.le
  have hil := h.il
  have e : (s.drop a).take (i - a) = s.drop a := List.take_of_length_le (by rw [List.length_drop]; omega)
  have hn := h.no
  rw [e] at hn
  rw [h.sp, splitS_none hn, segS, e]
theorem RInv.dotN {s : Str} {a i : Nat} {dn : List Str} (h : RInv s a i dn) (hc : s[i]? = some 46) (hp : personS (segS s a i) = true) : RInv s (i + 1) (i + 1) (dn ++ [segS s a i]) := by
  have hi := (List.getElem?_eq_some_iff.1 hc).1
  refine ⟨Nat.le_refl _, by omega, by simp [ixS], by rw [h.dot hc]; simp, by simp [h.al, hp]⟩
theorem RInv.finN {s : Str} {a i : Nat} {dn : List Str} (h : RInv s a i dn) (hi : ¬ i < s.length) (hp : personS (segS s a i) = true) : REnd s (i + 1) (dn ++ [segS s a i]) := by
  have hil := h.il
  exact ⟨by omega, h.fin hi, by simp [h.al, hp]⟩
theorem role_bad {s : Str} {x : Str} (hm : x ∈ splitS 46 s) (hp : personS x = false) : roleS s = false := by
  unfold roleS
  rw [show (splitS 46 s).any (fun r => !personS r) = true from List.any_eq_true.2 ⟨x, hm, by simp [hp]⟩]
  simp
theorem REnd.role {s : Str} {i : Nat} {dn : List Str} (h : REnd s i dn) : roleS s = decide ((dn.length : Int) ≤ 4) := by
  unfold roleS
  rw [h.sp]
  have : dn.any (fun r => !personS r) = false := by
    rw [List.any_eq_false]
    intro x hx
    have := List.all_eq_true.1 h.al x hx
    simp [this]
  rw [this]
  simp
  omega
-- sorted insertion
def kS (l : List Str) (s : Str) : Nat := (l.takeWhile fun x => decide (x < s)).length
theorem kS_of {s : Str} : ∀ {l : List Str} {k : Nat}, k ≤ l.length → (∀ x ∈ l.take k, x < s) → (∀ x, l[k]? = some x → ¬ x < s) → kS l s = k
  | [], k, h1, _, _ => by simp at h1; simp [kS, h1]
  | y :: r, 0, _, _, h3 => by
    have := h3 y rfl
    unfold kS
    rw [List.takeWhile_cons_of_neg (by simpa using this)]
    rfl
  | y :: r, k + 1, h1, h2, h3 => by
    have hy : y < s := h2 y (by simp)
    have ih := kS_of (l := r) (k := k) (by simpa using h1) (fun x hx => h2 x (by simp [hx])) (fun x hx => h3 x (by simpa using hx))
    unfold kS at ih ⊢
    rw [List.takeWhile_cons_of_pos (by simpa using hy), List.length_cons, ih]
def withS (l : List Str) (s : Str) : List Str := if s = [] ∨ l[kS l s]? = some s then l else l.take (kS l s) ++ [s] ++ l.drop (kS l s)
theorem kS_le (l : List Str) (s : Str) : kS l s ≤ l.length := (List.takeWhile_sublist _).length_le
theorem withS_len (l : List Str) (s : Str) : (withS l s).length ≤ l.length + 1 := by
  have := kS_le l s
  unfold withS
  split
  · omega
  · simp only [List.length_append, List.length_take, List.length_cons, List.length_nil, List.length_drop]
    omega
theorem withS_mem {l : List Str} {s x : Str} : x ∈ withS l s ↔ x ∈ l ∨ (x = s ∧ s ≠ []) := by
  unfold withS
  split
  · rename_i h
    constructor
    · exact .inl
    · rintro (h2 | ⟨rfl, h2⟩)
      · exact h2
      · rcases h with h | h
        · exact absurd h h2
        · exact List.mem_of_getElem? h
  · rename_i h
    simp only [not_or] at h
    have e : x ∈ l ↔ x ∈ l.take (kS l s) ∨ x ∈ l.drop (kS l s) := by
      rw [← List.mem_append, List.take_append_drop]
    rw [e]
    simp only [List.mem_append, List.mem_singleton]
    constructor
    · rintro ((h1 | h1) | h1)
      · exact .inl (.inl h1)
      · exact .inr ⟨h1, h1 ▸ h.1⟩
      · exact .inl (.inr h1)
    · rintro ((h1 | h1) | h1)
      · exact .inl (.inl h1)
      · exact .inr h1
      · exact .inl (.inr h1.1)
theorem tw_all {s : Str} : ∀ (l : List Str), ∀ x ∈ l.take (kS l s), x < s := by
  intro l x hx
  have e : l.take (kS l s) = l.takeWhile fun x => decide (x < s) := by
    unfold kS
    exact (List.prefix_iff_eq_take.1 (List.takeWhile_prefix _)).symm
  rw [e] at hx
  induction l with
  | nil => simp at hx
  | cons y r ih =>
    by_cases hy : y < s
    · rw [List.takeWhile_cons_of_pos (by simpa using hy)] at hx
      rcases List.mem_cons.1 hx with rfl | hx
      · exact hy
      · refine ih hx ?_
        unfold kS
        exact (List.prefix_iff_eq_take.1 (List.takeWhile_prefix _)).symm
    · rw [List.takeWhile_cons_of_neg (by simpa using hy)] at hx
      simp at hx
theorem tw_next {s : Str} : ∀ (l : List Str) (x : Str), l[kS l s]? = some x → ¬ x < s
  | [], x, h => by simp at h
  | y :: r, x, h => by
    unfold kS at h
    by_cases hy : y < s
    · rw [List.takeWhile_cons_of_pos (by simpa using hy), List.length_cons, List.getElem?_cons_succ] at h
      exact tw_next r x h
    · rw [List.takeWhile_cons_of_neg (by simpa using hy)] at h
      simp only [List.length_nil, List.getElem?_cons_zero, Option.some.injEq] at h
      subst h
      exact hy
theorem withS_lt {l : List Str} {s : Str} (h : l.Pairwise fun x y => x < y) : (withS l s).Pairwise fun x y => x < y := by
  unfold withS
  split
  · exact h
  · rename_i hn
    simp only [not_or] at hn
    have hd : ∀ y ∈ l.drop (kS l s), s < y := by
      intro y hy
      obtain ⟨j, hj, rfl⟩ := List.mem_iff_getElem.1 hy
      rw [List.getElem_drop]
      rw [List.length_drop] at hj
      have hk : kS l s < l.length := by omega
      have h0 := tw_next l _ (List.getElem?_eq_getElem hk)
      have h1 : s < l[kS l s] := by
        apply Decidable.byContradiction
        intro q
        apply hn.2
        rw [List.getElem?_eq_getElem hk, Option.some.injEq]
        exact List.le_antisymm (List.not_lt.1 q) (List.not_lt.1 h0)
      rcases Nat.eq_zero_or_pos j with rfl | hp
      · exact h1
      · exact List.lt_trans h1 (List.pairwise_iff_getElem.1 h _ _ hk (by omega) (by omega))
    rw [List.pairwise_append, List.pairwise_append]
    refine ⟨⟨h.sublist (List.take_sublist _ _), List.pairwise_singleton _ _, fun x hx y hy => ?_⟩, h.sublist (List.drop_sublist _ _), fun x hx y hy => ?_⟩
    · rw [List.mem_singleton] at hy
      subst hy
      exact tw_all l x hx
    · rcases List.mem_append.1 hx with hx | hx
      · exact List.lt_trans (tw_all l x hx) (hd y hy)
      · rw [List.mem_singleton] at hx
        subst hx
        exact hd y hy
def atomsF (l : List Pc) : List Str := l.foldl (fun L p => withS (withS (withS L p.a) p.b) p.c) []
theorem atomsF_step {l : List Pc} {i : Nat} {p : Pc} (h : l[i]? = some p) : atomsF (l.take (i + 1)) = withS (withS (withS (atomsF (l.take i)) p.a) p.b) p.c := by
  rw [List.take_add_one, h, Option.toList_some]
  simp [atomsF, List.foldl_append]
theorem atomsF_gen : ∀ (l : List Pc) (L : List Str), L.Pairwise (fun x y => x < y) → (l.foldl (fun L p => withS (withS (withS L p.a) p.b) p.c) L).Pairwise (fun x y => x < y) ∧ (∀ x, x ∈ l.foldl (fun L p => withS (withS (withS L p.a) p.b) p.c) L ↔ x ∈ L ∨ x ∈ atomsR l) ∧ (l.foldl (fun L p => withS (withS (withS L p.a) p.b) p.c) L).length ≤ L.length + 3 * l.length
  | [], L, h => ⟨h, fun x => by simp [atomsR], by simp⟩
  | p :: r, L, h => by
    obtain ⟨h1, h2, h3⟩ := atomsF_gen r (withS (withS (withS L p.a) p.b) p.c) (withS_lt (withS_lt (withS_lt h)))
    refine ⟨h1, fun x => ?_, ?_⟩
    · rw [List.foldl_cons, h2, withS_mem, withS_mem, withS_mem]
      simp only [atomsR, List.flatMap_cons, List.mem_append, atoms1, List.mem_filter, List.mem_cons, List.not_mem_nil, or_false]
      constructor
      · rintro ((((h | ⟨rfl, h⟩) | ⟨rfl, h⟩) | ⟨rfl, h⟩) | h)
        · exact .inl h
        · exact .inr (.inl ⟨.inl rfl, by simpa using h⟩)
        · exact .inr (.inl ⟨.inr (.inl rfl), by simpa using h⟩)
        · exact .inr (.inl ⟨.inr (.inr rfl), by simpa using h⟩)
        · exact .inr (.inr h)
      · rintro (h | ⟨h, h5⟩ | h)
        · exact .inl (.inl (.inl (.inl h)))
        · have h6 : x ≠ [] := by simpa using h5
          rcases h with rfl | rfl | rfl
          · exact .inl (.inl (.inl (.inr ⟨rfl, h6⟩)))
          · exact .inl (.inl (.inr ⟨rfl, h6⟩))
          · exact .inl (.inr ⟨rfl, h6⟩)
        · exact .inr h
    · rw [List.foldl_cons]
      have a1 := withS_len L p.a
      have a2 := withS_len (withS L p.a) p.b
      have a3 := withS_len (withS (withS L p.a) p.b) p.c
      simp only [List.length_cons]
      omega
theorem sorted_eq : ∀ {l m : List Str}, l.Pairwise (fun x y => x < y) → m.Pairwise (fun x y => x < y) → (∀ x, x ∈ l ↔ x ∈ m) → l = m
  | [], [], _, _, _ => rfl
  | [], y :: m, _, _, h => by have := (h y).2 (by simp); simp at this
  | x :: l, [], _, _, h => by have := (h x).1 (by simp); simp at this
  | x :: l, y :: m, h1, h2, h => by
    rw [List.pairwise_cons] at h1 h2
    have e : x = y := by
      have hx := (h x).1 (by simp)
      have hy := (h y).2 (by simp)
      rcases List.mem_cons.1 hx with e | hx
      · exact e
      rcases List.mem_cons.1 hy with e | hy
      · exact e.symm
      exact absurd (List.lt_trans (h1.1 y hy) (h2.1 x hx)) (List.lt_irrefl _)
    subst e
    congr 1
    refine sorted_eq h1.2 h2.2 fun z => ?_
    have hz := h z
    simp only [List.mem_cons] at hz
    constructor
    · intro q
      rcases hz.1 (.inr q) with e | e
      · subst e
        exact absurd (h1.1 z q) (List.lt_irrefl _)
      · exact e
    · intro q
      rcases hz.2 (.inr q) with e | e
      · subst e
        exact absurd (h2.1 z q) (List.lt_irrefl _)
      · exact e
theorem atoms_eq (l : List Pc) : atomsL l = atomsF l := by
  obtain ⟨h1, h2, _⟩ := atomsF_gen l [] List.Pairwise.nil
  refine sorted_eq (atomsL_lt l) h1 fun x => ?_
  have := h2 x
  rw [atomsL_mem]
  simp only [List.not_mem_nil, false_or] at this
  exact this.symm
theorem atomsF_len (l : List Pc) : (atomsF l).length ≤ 3 * l.length := by
  have := (atomsF_gen l [] List.Pairwise.nil).2.2
  simpa [atomsF] using this
end Go.Vs
