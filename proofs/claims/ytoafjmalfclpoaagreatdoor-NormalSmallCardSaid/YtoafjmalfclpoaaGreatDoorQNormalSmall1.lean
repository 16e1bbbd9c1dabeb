/-
  Part of the proof of the law NormalSmall over this seat (no condition).
-/
import Derived.Test.YtoafjmalfclpoaaGreatDoorPk2
import Derived.Test.YtoafjmalfclpoaaGreatDoorPk3
import Derived.Test.YtoafjmalfclpoaaGreatDoorPk7
import Derived.Test.YtoafjmalfclpoaaGreatDoorPk6
set_option linter.unusedVariables false
set_option linter.unusedSimpArgs false
set_option linter.unusedSectionVars false
/-
  Atoms and roles of what is valid are valid; sizes; sub-concepts of valid concepts are valid.
-/
namespace Go.Vs
open Go Go.Sx
/-! ### names -/
theorem word_ne {s : Str} (h : wordS s = true) : ∃ c t, s = c :: t ∧ letterS c = true ∧ tailS s = true := by
  cases s with
  | nil => simp [wordS] at h
  | cons c t =>
    simp only [wordS, Bool.and_eq_true] at h
    exact ⟨c, t, rfl, h.1.1.2, h.1.2⟩
theorem plain_head {s : Str} (h : plainS s = true) : ∃ c t, s = c :: t ∧ letterS c = true := by
  unfold plainS at h
  simp only [Bool.and_eq_true] at h
  cases hx : ixS 58 s with
  | none => rw [hx] at h; obtain ⟨c, t, h1, h2, _⟩ := word_ne h.2; exact ⟨c, t, h1, h2⟩
  | some k =>
    rw [hx] at h
    simp only [Bool.and_eq_true] at h
    obtain ⟨c, t, h1, h2, _⟩ := word_ne h.2.1
    cases s with
    | nil => simp at h1
    | cons d u =>
      cases k with
      | zero => simp at h1
      | succ k => simp only [List.take_succ_cons, List.cons.injEq] at h1; exact ⟨d, u, rfl, h1.1 ▸ h2⟩
theorem tail_mem {s : Str} (h : tailS s = true) : ∀ c ∈ s, innerS c = true := fun c hc => List.all_eq_true.1 h c hc
theorem ixS_split {c : UInt8} {s : Str} {k : Nat} (h : ixS c s = some k) : s = s.take k ++ c :: s.drop (k + 1) := by
  induction s generalizing k with
  | nil => simp [ixS] at h
  | cons b s ih =>
    simp only [ixS] at h
    split at h
    · rename_i hb
      simp only [Option.some.injEq] at h
      subst h; subst hb; simp
    · cases hx : ixS c s with
      | none => rw [hx] at h; simp at h
      | some j =>
        rw [hx] at h
        simp only [Option.map_some, Option.some.injEq] at h
        subst h
        simp only [List.take_succ_cons, List.drop_succ_cons, List.cons_append]
        rw [← ih hx]
theorem plain_mem {s : Str} (h : plainS s = true) : ∀ c ∈ s, innerS c = true ∨ c = 58 := by
  unfold plainS at h
  simp only [Bool.and_eq_true] at h
  cases hx : ixS 58 s with
  | none => rw [hx] at h; obtain ⟨_, _, _, _, h3⟩ := word_ne h.2; exact fun c hc => .inl (tail_mem h3 c hc)
  | some k =>
    rw [hx] at h
    simp only [Bool.and_eq_true] at h
    obtain ⟨_, _, _, _, h3⟩ := word_ne h.2.1
    obtain ⟨_, _, _, _, h4⟩ := word_ne h.2.2
    intro c hc
    rw [ixS_split hx] at hc
    rcases List.mem_append.1 hc with hc | hc
    · exact .inl (tail_mem h3 c hc)
    · rcases List.mem_cons.1 hc with rfl | hc
      · exact .inr rfl
      · exact .inl (tail_mem h4 c hc)
theorem ixS_not_mem {c : UInt8} : ∀ {s : Str}, c ∉ s → ixS c s = none
  | [], _ => rfl
  | b :: s, h => by
    simp only [List.mem_cons, not_or] at h
    simp only [ixS]
    rw [if_neg (fun e => h.1 e.symm), ixS_not_mem h.2]; rfl
theorem plain_nodot {s : Str} (h : plainS s = true) : splitS 46 s = [s] :=
  splitS_none (ixS_not_mem fun hm => by rcases plain_mem h 46 hm with h | h <;> revert h <;> decide)
theorem person_of_plain {s : Str} (h : plainS s = true) : personS s = true := by simp [personS, h]
theorem role_plain {s : Str} (h : plainS s = true) : roleS s = true := by
  unfold roleS
  rw [plain_nodot h]
  simp [person_of_plain h]
theorem splitS_app (c : UInt8) : ∀ (f r : Str), splitS c (f ++ [c] ++ r) = splitS c f ++ splitS c r
  | [], r => by simp [splitS]
  | b :: f, r => by
    have ih := splitS_app c f r
    simp only [List.append_assoc, List.cons_append, List.nil_append] at ih ⊢
    by_cases hb : b = c
    · subst hb; simp only [splitS, if_true, ih, List.cons_append]
    · simp only [splitS, hb, if_false, ih]
      cases hs : splitS c f with
      | nil => exact absurd hs (splitS_ne c f)
      | cons x t => simp
theorem letter_not {c : UInt8} (h : letterS c = true) : c ≠ 42 ∧ c ≠ 33 ∧ c ≠ 123 ∧ c ≠ 60 ∧ c ≠ 95 := by
  refine ⟨?_, ?_, ?_, ?_, ?_⟩ <;> rintro rfl <;> revert h <;> decide
theorem atom_plain {s : Str} (h : plainS s = true) : atomS s = true := by
  obtain ⟨c, t, rfl, hc⟩ := plain_head h
  obtain ⟨h1, h2, h3, h4, _⟩ := letter_not hc
  unfold atomS
  rw [if_neg (by simp [h1, h2]), if_neg (by simp [h3]), if_neg (by simp [h4])]
  exact person_of_plain h
theorem atom_ind {s : Str} (h : personS s = true) : atomS ([123] ++ s ++ [125]) = true := by
  unfold atomS
  have e : ([123] ++ s ++ [125]).length = s.length + 2 := by simp
  rw [if_neg (by simp), if_pos (by
    refine ⟨by omega, by simp, ?_⟩
    rw [List.getElem?_append_right (by simp)]; simp)]
  rw [e]
  have : (List.drop 1 ([123] ++ s ++ [125])).take (s.length + 2 - 1 - 1) = s := by simp
  rw [this]; exact h
theorem atom_angle {t : Str} (h : t ≠ []) : atomS ([60] ++ t ++ [62]) = true := by
  unfold atomS
  have hl : 0 < t.length := List.length_pos_iff.2 h
  have e : ([60] ++ t ++ [62]).length = t.length + 2 := by simp
  rw [if_neg (by simp), if_neg (by simp), if_pos (by
    refine ⟨by omega, by simp, ?_⟩
    rw [List.getElem?_append_right (by simp)]; simp)]
/-! ### sizes and nesting -/
namespace Con
def dep : Con → Nat
  | mk _ _ _ _ _ _ ps => deps ps
where deps : List Con → Nat
  | [] => 0
  | p :: ps => max (1 + dep p) (deps ps)
theorem dep_mem {p : Con} : ∀ {ps : List Con}, p ∈ ps → 1 + p.dep ≤ dep.deps ps
  | q :: ps, h => by
    rcases List.mem_cons.1 h with rfl | h
    · simp only [dep.deps]; omega
    · have := dep_mem h; simp only [dep.deps]; omega
theorem dep_eq (c : Con) : c.dep = dep.deps c.parts := by cases c; rfl
theorem sz_eq (c : Con) : c.sz = 1 + sz.szs c.parts := by cases c; rfl
theorem fits_iff : ∀ (m : Nat) (c : Con), c.sz ≤ m → ∀ d n, (c.fits d n).1 = true ↔ d + c.dep ≤ 8 ∧ n + c.sz ≤ 64
  | 0, c, h => by have := c.sz_pos; omega
  | m + 1, c, h => fun d n => by
    have key : ∀ ps : List Con, (∀ p ∈ ps, p.sz ≤ m) → ∀ n, n ≤ 64 → ((fits.fitss ps (d + 1) n).1 = true ↔ (∀ p ∈ ps, d + 1 + p.dep ≤ 8) ∧ n + sz.szs ps ≤ 64) := by
      intro ps
      induction ps with
      | nil => intro _ n hn; simp [fits.fitss, sz.szs, hn]
      | cons p ps ih =>
        intro hp n hn
        have h1 := fits_iff m p (hp p (by simp)) (d + 1) n
        simp only [fits.fitss, sz.szs, List.mem_cons, forall_eq_or_imp]
        rcases hq : p.fits (d + 1) n with ⟨b, q⟩
        rw [hq] at h1
        cases b with
        | true =>
          have hs := fits_sz _ p (Nat.le_refl _) (d + 1) n (by rw [hq])
          rw [hq] at hs
          simp only at hs h1 ⊢
          have h2 := h1.1 trivial
          rw [ih (fun r hr => hp r (by simp [hr])) q (by omega)]
          constructor
          · rintro ⟨a, b⟩; exact ⟨⟨h2.1, a⟩, by omega⟩
          · rintro ⟨⟨_, a⟩, b⟩; exact ⟨a, by omega⟩
        | false =>
          simp only [Bool.false_eq_true, false_iff] at h1 ⊢
          rintro ⟨⟨a, _⟩, b⟩
          exact h1 ⟨a, by omega⟩
    have hd := dep_eq c
    have hz := sz_eq c
    rw [fits_eq]
    split
    · rename_i hc
      simp only [Bool.or_eq_true, decide_eq_true_eq] at hc
      simp only [Bool.false_eq_true, false_iff]
      rintro ⟨a, b⟩
      omega
    · rename_i hc
      simp only [Bool.or_eq_true, decide_eq_true_eq, not_or] at hc
      rw [key c.parts (fun p hp => by have := sz_part hp; omega) (n + 1) (by omega), hd, hz]
      constructor
      · rintro ⟨a, b⟩
        refine ⟨?_, by omega⟩
        have : ∀ ps : List Con, (∀ p ∈ ps, d + 1 + p.dep ≤ 8) → d + dep.deps ps ≤ 8 := by
          intro ps
          induction ps with
          | nil => intro _; simp [dep.deps]; omega
          | cons p ps ih =>
            intro hp
            have h1 := hp p (by simp)
            have h2 := ih fun q hq => hp q (by simp [hq])
            simp only [dep.deps]; omega
        exact this _ a
      · rintro ⟨a, b⟩
        exact ⟨fun p hp => by have := dep_mem hp; omega, by omega⟩
theorem check_iff (c : Con) : c.check = 0 ↔ c.dep ≤ 8 ∧ c.sz ≤ 64 ∧ c.fine := by
  unfold check fine
  have h := fits_iff _ c (Nat.le_refl _) 0 0
  by_cases hf : (c.fits 0 0).1 = true
  · rw [if_pos hf]
    have := h.1 hf
    constructor
    · intro e; exact ⟨by omega, by omega, e⟩
    · exact fun e => e.2.2
  · rw [if_neg hf]
    constructor
    · intro e; cases e
    · intro e; exact absurd (h.2 ⟨by omega, by omega⟩) hf
theorem check_part {c p : Con} (h : c.check = 0) (hp : p ∈ c.parts) : p.check = 0 := by
  rw [check_iff] at h ⊢
  have h1 := dep_mem hp
  rw [← dep_eq] at h1
  have h2 := sz_part hp
  exact ⟨by omega, by omega, fine_part h.2.2 hp⟩
structure Names (c : Con) : Prop where
  plain : c.kind = 3 ∨ c.kind = 6 ∨ c.kind = 7 → plainS c.name = true
  person : c.kind = 4 → personS c.name = true
  nums : c.kind = 7 → -1099511627776 ≤ c.lo ∧ c.lo ≤ c.hi ∧ c.hi ≤ 1099511627776
theorem names_of {c : Con} (h : c.fine) : Names c := by
  have F := fields h
  have hk : c.kind = 1 ∨ c.kind = 2 ∨ c.kind = 3 ∨ c.kind = 4 ∨ c.kind = 5 ∨ c.kind = 6 ∨ c.kind = 7 := by have := F.k1; have := F.k7; omega
  have h0 := ((fine_iff c).1 h).1
  unfold fieldErr at h0
  rw [if_neg (by have := F.k1; have := F.k7; omega)] at h0
  split at h0
  · cases h0
  · split at h0
    · cases h0
    · rename_i h3
      split at h0
      · cases h0
      · split at h0
        · rename_i h5
          refine ⟨fun e => ?_, fun e => ?_, fun e => ?_⟩
          · rcases e with e | e | e <;> rw [e] at h5 <;> simpa [nd, needL] using h5
          · rw [e] at h5
            simp [nd, needL] at h5
            simp [personS, h5]
          · rw [e] at h3
            simp [nd, needL] at h3
            omega
        · cases h0
theorem join_two (x y : Str) (r : List Str) (sep : Str) : Lib.join (x :: y :: r) sep = x ++ sep ++ Lib.join (y :: r) sep := by simp [Lib.join, List.intercalate]
theorem text_ne {c : Con} (h : c.fine) (hk : 5 ≤ c.kind) : c.text ≠ [] := by
  have F := fields h
  have h7 := F.k7
  rw [text_eq, if_neg (by omega), if_neg (by omega), if_neg (by omega), if_neg (by omega)]
  split
  · rename_i h5
    have hl := F.le
    rw [h5] at hl
    simp [nd, needL] at hl
    match hp : c.parts, hl with
    | [], hl => simp at hl
    | [_], hl => simp at hl
    | p :: q :: r, _ => simp only [List.map_cons, join_two]; simp
  · split
    · simp only [join_two]; simp
    · simp only [join_two]; simp
theorem atom_ok {c : Con} (h : c.check = 0) : atomS c.atom = true := by
  have hf := (check_zero h).1
  have F := fields hf
  have N := names_of hf
  have h1 := F.k1
  have h7 := F.k7
  unfold atom
  split
  · rfl
  · split
    · rfl
    · split
      · exact atom_plain (N.plain (by omega))
      · split
        · exact atom_ind (N.person (by omega))
        · unfold textN
          rw [if_pos h]
          exact atom_angle (text_ne hf (by omega))
theorem atom_len {c : Con} (hok : c.ok) (h : c.check = 0) : c.atom.length ≤ 7000 := by
  have F := fields (check_zero h).1
  have hn := F.nm
  have ht := textN_len hok
  unfold atom
  repeat' split
  all_goals simp <;> omega
/-- the first parts of a conjunction -/
theorem pre_check {c : Con} (h : c.check = 0) (hk : c.kind = 5) {j : Nat} (h2 : 2 ≤ j) (hj : j ≤ c.parts.length) : (c.pre j).check = 0 := by
  have hf := (check_zero h).1
  have F := fields hf
  have hmo := F.mo
  rw [hk] at hmo
  simp [nd, needL] at hmo
  rw [check_iff] at h ⊢
  have key : ∀ (ps : List Con) (j : Nat), sz.szs (ps.take j) ≤ sz.szs ps ∧ dep.deps (ps.take j) ≤ dep.deps ps := by
    intro ps
    induction ps with
    | nil => intro j; simp
    | cons p ps ih =>
      intro j
      cases j with
      | zero => simp [sz.szs, dep.deps]
      | succ j => have := ih j; simp only [List.take_succ_cons, sz.szs, dep.deps]; omega
  have h1 := key c.parts j
  have e1 := dep_eq c
  have e2 := sz_eq c
  refine ⟨?_, ?_, ?_⟩
  · rw [dep_eq]; show dep.deps (c.parts.take j) ≤ 8; omega
  · rw [sz_eq]; show 1 + sz.szs (c.parts.take j) ≤ 64; omega
  · rw [fine_iff]
    refine ⟨?_, fun p hp => fine_part hf (List.mem_of_mem_take hp)⟩
    unfold fieldErr
    have hlen : (c.pre j).parts.length = j := by show (c.parts.take j).length = j; simp; omega
    rw [if_neg (by show ¬ ((5 : Int) < 1 ∨ 7 < (5 : Int)); omega)]
    simp only [hlen]
    have hk5 : (c.pre j).kind = 5 := rfl
    rw [hk5]
    simp [nd, needL, pre, name, lo, hi]
    omega
end Con
end Go.Vs

/-
  The pieces of valid axioms are valid; the pieces of a list are those of its parts.
-/
namespace Go.Vs
open Go Go.Sx
structure PQ (f : Int) (q : Pc) : Prop where
  frm : q.frm = f
  sm : q.sm
  ok : q.valid = true
section
variable {f : Int} (h0 : -1 ≤ f) (h1 : f < 1024) {a b c r s t : Str} {lo hi : Int}
include h0 h1
theorem val1 (ha : atomS a = true) (hc : atomS c = true) : Pc.valid ⟨1, a, [], c, [], [], [], 0, 0, f⟩ = true := by
  unfold Pc.valid; rw [if_neg (by simp; omega)]; simp [nus, nuseL, fldS, ha, hc]
theorem val2 (ha : atomS a = true) (hb : atomS b = true) (hc : atomS c = true) : Pc.valid ⟨2, a, b, c, [], [], [], 0, 0, f⟩ = true := by
  unfold Pc.valid; rw [if_neg (by simp; omega)]; simp [nus, nuseL, fldS, ha, hb, hc]
theorem val3 (ha : atomS a = true) (hr : roleS r = true) (hc : atomS c = true) : Pc.valid ⟨3, a, [], c, r, [], [], 0, 0, f⟩ = true := by
  unfold Pc.valid; rw [if_neg (by simp; omega)]; simp [nus, nuseL, fldS, ha, hr, hc]
theorem val4 (ha : atomS a = true) (hr : roleS r = true) (hc : atomS c = true) : Pc.valid ⟨4, a, [], c, r, [], [], 0, 0, f⟩ = true := by
  unfold Pc.valid; rw [if_neg (by simp; omega)]; simp [nus, nuseL, fldS, ha, hr, hc]
theorem val5 (hr : roleS r = true) (ht : roleS t = true) : Pc.valid ⟨5, [], [], [], r, [], t, 0, 0, f⟩ = true := by
  unfold Pc.valid; rw [if_neg (by simp; omega)]; simp [nus, nuseL, fldS, hr, ht]
theorem val6 (hr : roleS r = true) (hs : roleS s = true) (ht : roleS t = true) : Pc.valid ⟨6, [], [], [], r, s, t, 0, 0, f⟩ = true := by
  unfold Pc.valid; rw [if_neg (by simp; omega)]; simp [nus, nuseL, fldS, hr, hs, ht]
theorem val7 (hr : roleS r = true) : Pc.valid ⟨7, [], [], [], r, [], [], 0, 0, f⟩ = true := by
  unfold Pc.valid; rw [if_neg (by simp; omega)]; simp [nus, nuseL, fldS, hr]
theorem val8 (ha : atomS a = true) (hr : personS r = true) (hn : -1099511627776 ≤ lo ∧ lo ≤ hi ∧ hi ≤ 1099511627776) : Pc.valid ⟨8, a, [], [], r, [], [], lo, hi, f⟩ = true := by
  unfold Pc.valid; rw [if_neg (by simp; omega), if_neg (by simp [nus, nuseL]; omega)]; simp [nus, nuseL, fldS, ha, hr]
theorem val9 (hc : atomS c = true) (hr : personS r = true) (hn : -1099511627776 ≤ lo ∧ lo ≤ hi ∧ hi ≤ 1099511627776) : Pc.valid ⟨9, [], [], c, r, [], [], lo, hi, f⟩ = true := by
  unfold Pc.valid; rw [if_neg (by simp; omega), if_neg (by simp [nus, nuseL]; omega)]; simp [nus, nuseL, fldS, hc, hr]
end
theorem ins_all {Q : Pc → Prop} {f : Int} {l : List Pc} {p : Pc} (hl : ∀ q ∈ l, Q q) (hp : Q { p with frm := f }) : ∀ q ∈ ins f l p, Q q := by
  unfold ins
  split
  · exact hl
  · intro q hq
    rcases List.mem_append.1 hq with hq | hq
    · exact hl q hq
    · simp only [List.mem_singleton] at hq; subst hq; exact hp
theorem plain_lt {s : Str} (h : plainS s = true) : s.length ≤ 24 := Con.plain_len h
theorem person_lt {s : Str} (h : personS s = true) : s.length ≤ 24 := by
  simp only [personS, Bool.or_eq_true] at h
  rcases h with h | h
  · exact Con.plain_len h
  · exact Con.reserved_len h
namespace Con
section
variable {f : Int} (h0 : -1 ≤ f) (h1 : f < 1024)
include h0 h1
theorem andP_all (c : Con) (hok : c.ok) (hc : c.check = 0) (hk : c.kind = 5) : ∀ (r : List Con) (j : Nat) (a : Str) (l : List Pc), 1 ≤ j → j + r.length ≤ c.parts.length → (∀ p ∈ r, p ∈ c.parts) → atomS a = true → a.length ≤ 7000 → (∀ q ∈ l, PQ f q) → ∀ q ∈ andP f c r j a l, PQ f q
  | [], _, _, l, _, _, _, _, _, hl => hl
  | p :: r, j, a, l, hj, hlen, hm, ha, hal, hl => by
    simp only [List.length_cons] at hlen
    have hp := hm p (by simp)
    have hpre := pre_check hc hk (j := j + 1) (by omega) (by omega)
    have x1 := atom_ok hpre
    have x2 := atom_len (pre_ok hok (j + 1)) hpre
    have x3 := atom_ok (check_part hc hp)
    have x4 := atom_len (ok_part hok hp) (check_part hc hp)
    simp only [andP]
    exact andP_all c hok hc hk r (j + 1) _ _ (by omega) (by omega) (fun q hq => hm q (by simp [hq])) x1 x2
      (ins_all hl ⟨rfl, ⟨by dsimp only; omega, by dsimp only; omega, by dsimp only; omega, by simp, by simp, by simp⟩, val2 h0 h1 ha x3 x1⟩)
theorem leftP_all : ∀ (m : Nat) (c : Con), c.sz ≤ m → c.ok → c.check = 0 → ∀ l, (∀ q ∈ l, PQ f q) → ∀ q ∈ c.leftP f l, PQ f q
  | 0, c, h => by have := c.sz_pos; omega
  | m + 1, c, h => fun hok hc l hl => by
    have key : ∀ ps : List Con, (∀ p ∈ ps, p ∈ c.parts) → ∀ l, (∀ q ∈ l, PQ f q) → ∀ q ∈ leftP.lefts f ps l, PQ f q := by
      intro ps
      induction ps with
      | nil => intro _ l hl; exact hl
      | cons p ps ih =>
        intro hp l hl
        have hpm := hp p (by simp)
        exact ih (fun q hq => hp q (by simp [hq])) _ (leftP_all m p (by have := sz_part hpm; omega) (ok_part hok hpm) (check_part hc hpm) l hl)
    have hk := key c.parts (fun _ h => h) l hl
    have F := fields (check_zero hc).1
    have N := names_of (check_zero hc).1
    have ca := atom_ok hc
    have cl := atom_len hok hc
    rw [leftP_eq]
    split
    · rename_i h5
      have hle := F.le
      rw [h5] at hle
      simp [nd, needL] at hle
      match hp : c.parts, hle with
      | [], hle => simp at hle
      | p :: r, _ =>
        have hpm : p ∈ c.parts := by rw [hp]; simp
        have x3 := atom_ok (check_part hc hpm)
        have x4 := atom_len (ok_part hok hpm) (check_part hc hpm)
        refine andP_all h0 h1 c hok hc h5 _ 1 _ _ (by omega) (by rw [hp]; simp; omega) (fun q hq => by rw [hp]; exact List.mem_of_mem_drop hq) (by simpa using x3) (by simpa using x4) (by rw [hp] at hk; exact hk)
    · split
      · rename_i h6
        have hle := F.le
        rw [h6] at hle
        simp [nd, needL] at hle
        have hpl := N.plain (.inr (.inl h6))
        match hp : c.parts, hle with
        | [], hle => simp at hle
        | p :: r, _ =>
          have hpm : p ∈ c.parts := by rw [hp]; simp
          have x3 := atom_ok (check_part hc hpm)
          have x4 := atom_len (ok_part hok hpm) (check_part hc hpm)
          have x5 := plain_lt hpl
          rw [hp] at hk
          exact ins_all hk ⟨rfl, ⟨by simp; omega, by simp, by dsimp only; omega, by dsimp only; omega, by simp, by simp⟩, val4 h0 h1 (by simpa using x3) (role_plain hpl) ca⟩
      · split
        · rename_i h7
          have hpl := N.plain (.inr (.inr h7))
          have x5 := plain_lt hpl
          exact ins_all hl ⟨rfl, ⟨by simp, by simp, by dsimp only; omega, by dsimp only; omega, by simp, by simp⟩, val9 h0 h1 ca (person_of_plain hpl) (N.nums h7)⟩
        · exact hl
theorem rightP_all : ∀ (m : Nat) (c : Con), c.sz ≤ m → c.ok → c.check = 0 → ∀ l, (∀ q ∈ l, PQ f q) → ∀ q ∈ c.rightP f l, PQ f q
  | 0, c, h => by have := c.sz_pos; omega
  | m + 1, c, h => fun hok hc l hl => by
    have ca := atom_ok hc
    have cl := atom_len hok hc
    have key : ∀ ps : List Con, (∀ p ∈ ps, p ∈ c.parts) → ∀ l, (∀ q ∈ l, PQ f q) → ∀ q ∈ rightP.rights f c.atom ps l, PQ f q := by
      intro ps
      induction ps with
      | nil => intro _ l hl; exact hl
      | cons p ps ih =>
        intro hp l hl
        have hpm := hp p (by simp)
        have x3 := atom_ok (check_part hc hpm)
        have x4 := atom_len (ok_part hok hpm) (check_part hc hpm)
        exact ih (fun q hq => hp q (by simp [hq])) _ (rightP_all m p (by have := sz_part hpm; omega) (ok_part hok hpm) (check_part hc hpm) _
          (ins_all hl ⟨rfl, ⟨by dsimp only; omega, by simp, by dsimp only; omega, by simp, by simp, by simp⟩, val1 h0 h1 ca x3⟩))
    have key2 : ∀ ps : List Con, (∀ p ∈ ps, p ∈ c.parts) → ∀ l, (∀ q ∈ l, PQ f q) → ∀ q ∈ rightP.righty f ps l, PQ f q := by
      intro ps
      induction ps with
      | nil => intro _ l hl; exact hl
      | cons p ps ih =>
        intro hp l hl
        have hpm := hp p (by simp)
        exact ih (fun q hq => hp q (by simp [hq])) _ (rightP_all m p (by have := sz_part hpm; omega) (ok_part hok hpm) (check_part hc hpm) l hl)
    have F := fields (check_zero hc).1
    have N := names_of (check_zero hc).1
    rw [rightP_eq]
    split
    · exact key c.parts (fun _ h => h) l hl
    · split
      · rename_i h6
        have hle := F.le
        rw [h6] at hle
        simp [nd, needL] at hle
        have hpl := N.plain (.inr (.inl h6))
        have x5 := plain_lt hpl
        refine key2 c.parts (fun _ h => h) _ (ins_all hl ?_)
        match hp : c.parts, hle with
        | [], hle => simp at hle
        | p :: r, _ =>
          have hpm : p ∈ c.parts := by rw [hp]; simp
          have x3 := atom_ok (check_part hc hpm)
          have x4 := atom_len (ok_part hok hpm) (check_part hc hpm)
          exact ⟨rfl, ⟨by dsimp only; omega, by simp, by simp; omega, by dsimp only; omega, by simp, by simp⟩, val3 h0 h1 ca (role_plain hpl) (by simpa using x3)⟩
      · split
        · rename_i h7
          have hpl := N.plain (.inr (.inr h7))
          have x5 := plain_lt hpl
          exact ins_all hl ⟨rfl, ⟨by dsimp only; omega, by simp, by simp, by dsimp only; omega, by simp, by simp⟩, val8 h0 h1 ca (person_of_plain hpl) (N.nums h7)⟩
        · exact hl
end
end Con
namespace Ax
section
variable {f : Int} (h0 : -1 ≤ f) (h1 : f < 1024)
include h0 h1
theorem chainP_all (role : Str) (hr : plainS role = true) : ∀ (rs : List Str) (g : Str) (l : List Pc), (∀ r ∈ rs, plainS r = true) → (splitS 46 g).length + rs.length ≤ 4 → ((splitS 46 g).all personS = true) → g.length ≤ 100 * (splitS 46 g).length → (∀ q ∈ l, PQ f q) → ∀ q ∈ chainP f role rs g l, PQ f q
  | [], _, _, _, _, _, _, hl => hl
  | r :: t, g, l, hp, hn, hg, hgl, hl => by
    have hpr := hp r (by simp)
    have hrl := plain_lt hpr
    have hrol := plain_lt hr
    simp only [List.length_cons] at hn
    have hgr : roleS g = true := by
      unfold roleS
      rw [decide_eq_true (by omega)]
      simp only [Bool.true_and, Bool.not_eq_true']
      rw [List.any_eq_false]
      intro y hy
      simp [List.all_eq_true.1 hg y hy]
    simp only [chainP]
    by_cases ht : t = []
    · subst ht
      simp only [if_true, chainP]
      exact ins_all hl ⟨rfl, ⟨by simp, by simp, by simp, by dsimp only; omega, by dsimp only; omega, by dsimp only; omega⟩, val6 h0 h1 hgr (role_plain hpr) (role_plain hr)⟩
    · simp only [ht, if_false]
      have htl : 0 < t.length := List.length_pos_iff.2 ht
      have e := splitS_app 46 g r
      rw [plain_nodot hpr] at e
      have hall : (splitS 46 (g ++ [46] ++ r)).all personS = true := by rw [e, List.all_append, hg]; simp [person_of_plain hpr]
      have hlen : (splitS 46 (g ++ [46] ++ r)).length = (splitS 46 g).length + 1 := by rw [e]; simp
      have hgl2 : (g ++ [46] ++ r).length ≤ 100 * (splitS 46 (g ++ [46] ++ r)).length := by rw [hlen]; simp; omega
      have hgr2 : roleS (g ++ [46] ++ r) = true := by
        unfold roleS
        rw [decide_eq_true (by omega)]
        simp only [Bool.true_and, Bool.not_eq_true']
        rw [List.any_eq_false]
        intro y hy
        simp [List.all_eq_true.1 hall y hy]
      exact chainP_all role hr t _ _ (fun q hq => hp q (by simp [hq])) (by omega) hall hgl2
        (ins_all hl ⟨rfl, ⟨by simp, by simp, by simp, by dsimp only; omega, by dsimp only; omega, by dsimp only; omega⟩, val6 h0 h1 hgr (role_plain hpr) hgr2⟩)
theorem pieces_all {x : Ax} (hok : x.ok) (hc : x.check = 0) : ∀ q ∈ x.pieces f, PQ f q := by
  have G := good_of hc
  have L := fun (c : Con) (hok : c.ok) (hc : c.check = 0) => Con.leftP_all h0 h1 _ c (Nat.le_refl _) hok hc
  have Rr := fun (c : Con) (hok : c.ok) (hc : c.check = 0) => Con.rightP_all h0 h1 _ c (Nat.le_refl _) hok hc
  have n : ∀ q ∈ ([] : List Pc), PQ f q := fun q hq => by cases hq
  have h1' := G.k1
  have h9 := G.k9
  have A := fun (c : Con) (hok : c.ok) (hc : c.check = 0) => (⟨Con.atom_ok hc, Con.atom_len hok hc⟩ : atomS c.atom = true ∧ c.atom.length ≤ 7000)
  unfold pieces
  split
  · have l := G.left (by omega); have r := G.right (by omega)
    have a1 := A _ hok.left l; have a2 := A _ hok.right r
    exact ins_all (Rr _ hok.right r _ (L _ hok.left l _ n)) ⟨rfl, ⟨by dsimp only; omega, by simp, by dsimp only; omega, by simp, by simp, by simp⟩, val1 h0 h1 a1.1 a2.1⟩
  · split
    · have l := G.left (by omega); have r := G.right (by omega)
      have a1 := A _ hok.left l; have a2 := A _ hok.right r
      exact ins_all (Rr _ hok.left l _ (L _ hok.right r _ (ins_all (Rr _ hok.right r _ (L _ hok.left l _ n)) ⟨rfl, ⟨by dsimp only; omega, by simp, by dsimp only; omega, by simp, by simp, by simp⟩, val1 h0 h1 a1.1 a2.1⟩))) ⟨rfl, ⟨by dsimp only; omega, by simp, by dsimp only; omega, by simp, by simp, by simp⟩, val1 h0 h1 a2.1 a1.1⟩
    · split
      · have l := G.left (by omega); have r := G.right (by omega)
        have a1 := A _ hok.left l; have a2 := A _ hok.right r
        exact ins_all (L _ hok.right r _ (L _ hok.left l _ n)) ⟨rfl, ⟨by dsimp only; omega, by dsimp only; omega, by simp, by simp, by simp, by simp⟩, val2 h0 h1 a1.1 a2.1 rfl⟩
      · split
        · have r := G.right (by omega); have a2 := A _ hok.right r; have p := G.role (by omega); have pl := plain_lt p
          exact ins_all (Rr _ hok.right r _ n) ⟨rfl, ⟨by simp, by simp, by dsimp only; omega, by dsimp only; omega, by simp, by simp⟩, val4 h0 h1 rfl (role_plain p) a2.1⟩
        · split
          · rename_i h5
            have p := G.role (by omega); have pl := plain_lt p
            have ho := G.one h5
            match hr : x.roles, ho with
            | [r], _ =>
              have p2 := G.roles r (by rw [hr]; simp); have pl2 := plain_lt p2
              exact ins_all n ⟨rfl, ⟨by simp, by simp, by simp, by simp; omega, by simp, by dsimp only; omega⟩, val5 h0 h1 (by simpa using role_plain p2) (role_plain p)⟩
          · split
            · rename_i h6
              have p := G.role (by omega)
              have hch := G.chain h6
              match hr : x.roles, hch with
              | [], hch => simp at hch
              | r :: t, hch =>
                have p2 := G.roles r (by rw [hr]; simp); have pl2 := plain_lt p2
                have e := plain_nodot p2
                simp only [List.length_cons] at hch
                simp only [List.drop_succ_cons, List.drop_zero, List.headD_cons]
                exact chainP_all h0 h1 x.role p t r [] (fun q hq => G.roles q (by rw [hr]; simp [hq])) (by rw [e]; simp; omega) (by rw [e]; simp [person_of_plain p2]) (by rw [e]; simp; omega) n
            · split
              · have p := G.role (by omega); have pl := plain_lt p
                exact ins_all n ⟨rfl, ⟨by simp, by simp, by simp, by dsimp only; omega, by simp, by simp⟩, val7 h0 h1 (role_plain p)⟩
              · split
                · have r := G.right (by omega); have a2 := A _ hok.right r; have p := G.a (by omega); have pl := person_lt p
                  exact ins_all (Rr _ hok.right r _ n) ⟨rfl, ⟨by simp; omega, by simp, by dsimp only; omega, by simp, by simp, by simp⟩, val1 h0 h1 (atom_ind p) a2.1⟩
                · have p := G.role (by omega); have pl := plain_lt p; have pa := G.a (by omega); have pb := G.b (by omega); have l1 := person_lt pa; have l2 := person_lt pb
                  exact ins_all n ⟨rfl, ⟨by simp; omega, by simp, by simp; omega, by dsimp only; omega, by simp, by simp⟩, val3 h0 h1 (atom_ind pa) (role_plain p) (atom_ind pb)⟩
end
end Ax
/-! ### another From -/
def shift (k : Int) (p : Pc) : Pc := { p with frm := p.frm + k }
theorem shift_inj {k : Int} {p q : Pc} (h : shift k p = shift k q) : p = q := by
  cases p; cases q
  simp only [shift, Pc.mk.injEq] at h ⊢
  refine ⟨h.1, h.2.1, h.2.2.1, h.2.2.2.1, h.2.2.2.2.1, h.2.2.2.2.2.1, h.2.2.2.2.2.2.1, h.2.2.2.2.2.2.2.1, h.2.2.2.2.2.2.2.2.1, by omega⟩
theorem ins_shift (f k : Int) (l : List Pc) (p : Pc) : ins (f + k) (l.map (shift k)) p = (ins f l p).map (shift k) := by
  have hm : ({ p with frm := f + k } : Pc) ∈ l.map (shift k) ↔ ({ p with frm := f } : Pc) ∈ l := by
    rw [List.mem_map]
    constructor
    · rintro ⟨q, hq, e⟩
      have : q = { p with frm := f } := shift_inj (k := k) e
      exact this ▸ hq
    · exact fun h => ⟨_, h, rfl⟩
  unfold ins
  by_cases h : ({ p with frm := f } : Pc) ∈ l
  · rw [if_pos (hm.2 h), if_pos h]
  · rw [if_neg (fun q => h (hm.1 q)), if_neg h, List.map_append]; rfl
namespace Con
theorem andP_shift (f k : Int) (c : Con) : ∀ (r : List Con) (j : Nat) (a : Str) (l : List Pc), andP (f + k) c r j a (l.map (shift k)) = (andP f c r j a l).map (shift k)
  | [], _, _, _ => rfl
  | p :: r, j, a, l => by simp only [andP, ins_shift]; exact andP_shift f k c r (j + 1) _ _
theorem leftP_shift (f k : Int) : ∀ (m : Nat) (c : Con), c.sz ≤ m → ∀ l, c.leftP (f + k) (l.map (shift k)) = (c.leftP f l).map (shift k)
  | 0, c, h => by have := c.sz_pos; omega
  | m + 1, c, h => fun l => by
    have key : ∀ ps : List Con, (∀ p ∈ ps, p.sz ≤ m) → ∀ l, leftP.lefts (f + k) ps (l.map (shift k)) = (leftP.lefts f ps l).map (shift k) := by
      intro ps
      induction ps with
      | nil => intro _ l; rfl
      | cons p ps ih =>
        intro hp l
        simp only [leftP.lefts]
        rw [leftP_shift f k m p (hp p (by simp)) l]
        exact ih (fun q hq => hp q (by simp [hq])) _
    have hk := key c.parts (fun p hp => by have := sz_part hp; omega) l
    rw [leftP_eq, leftP_eq, hk]
    split
    · exact andP_shift _ _ _ _ _ _ _
    · split
      · exact ins_shift _ _ _ _
      · split
        · exact ins_shift _ _ _ _
        · rfl
theorem rightP_shift (f k : Int) : ∀ (m : Nat) (c : Con), c.sz ≤ m → ∀ l, c.rightP (f + k) (l.map (shift k)) = (c.rightP f l).map (shift k)
  | 0, c, h => by have := c.sz_pos; omega
  | m + 1, c, h => fun l => by
    have key : ∀ ps : List Con, (∀ p ∈ ps, p.sz ≤ m) → ∀ a l, rightP.rights (f + k) a ps (l.map (shift k)) = (rightP.rights f a ps l).map (shift k) := by
      intro ps
      induction ps with
      | nil => intro _ a l; rfl
      | cons p ps ih =>
        intro hp a l
        simp only [rightP.rights]
        rw [ins_shift, rightP_shift f k m p (hp p (by simp))]
        exact ih (fun q hq => hp q (by simp [hq])) _ _
    have key2 : ∀ ps : List Con, (∀ p ∈ ps, p.sz ≤ m) → ∀ l, rightP.righty (f + k) ps (l.map (shift k)) = (rightP.righty f ps l).map (shift k) := by
      intro ps
      induction ps with
      | nil => intro _ l; rfl
      | cons p ps ih =>
        intro hp l
        simp only [rightP.righty]
        rw [rightP_shift f k m p (hp p (by simp))]
        exact ih (fun q hq => hp q (by simp [hq])) _
    have hps : ∀ p ∈ c.parts, p.sz ≤ m := fun p hp => by have := sz_part hp; omega
    rw [rightP_eq, rightP_eq]
    split
    · exact key c.parts hps _ l
    · split
      · rw [ins_shift]; exact key2 c.parts hps _
      · split
        · exact ins_shift _ _ _ _
        · rfl
end Con
theorem Ax.chainP_shift (f k : Int) (ro : Str) : ∀ (rs : List Str) (g : Str) (l : List Pc), Ax.chainP (f + k) ro rs g (l.map (shift k)) = (Ax.chainP f ro rs g l).map (shift k)
  | [], _, _ => rfl
  | r :: t, g, l => by simp only [Ax.chainP, ins_shift]; exact Ax.chainP_shift f k ro t _ _
theorem Ax.pieces_shift (f k : Int) (x : Ax) : x.pieces (f + k) = (x.pieces f).map (shift k) := by
  have L := fun (c : Con) l => Con.leftP_shift f k _ c (Nat.le_refl _) l
  have Rr := fun (c : Con) l => Con.rightP_shift f k _ c (Nat.le_refl _) l
  have n : ([] : List Pc) = ([] : List Pc).map (shift k) := rfl
  unfold Ax.pieces
  repeat' split
  · rw [n, L, Rr, ins_shift]; rfl
  · rw [n, L, Rr, ins_shift, L, Rr, ins_shift]; rfl
  · rw [n, L, L, ins_shift]; rfl
  · rw [n, Rr, ins_shift]; rfl
  · rw [n, ins_shift]; rfl
  · rw [n, Ax.chainP_shift]; rfl
  · rw [n, ins_shift]; rfl
  · rw [n, Rr, ins_shift]; rfl
  · rw [n, ins_shift]; rfl
/-! ### lists -/
def flat : Nat → List Ax → List Pc
  | _, [] => []
  | i, x :: l => x.pieces (i : Int) ++ flat (i + 1) l
theorem flat_len : ∀ (i : Nat) (l : List Ax), (∀ x ∈ l, x.check = 0) → (flat i l).length ≤ 1000 * l.length
  | _, [], _ => by simp [flat]
  | i, x :: l, h => by
    have h1 := pieces_len (i : Int) (Ax.good_of (h x (by simp)))
    have h2 := flat_len (i + 1) l fun y hy => h y (by simp [hy])
    simp only [flat, List.length_append, List.length_cons]
    omega
theorem gather_eq : ∀ (l : List Ax) (i : Nat) (p : List Pc), (∀ x ∈ l, x.check = 0) → p.length + 1000 * l.length ≤ 16384 → gather i l p = some (p ++ flat i l)
  | [], i, p, _, _ => by simp [gather, flat]
  | x :: l, i, p, h, hl => by
    have h1 := pieces_len (i : Int) (Ax.good_of (h x (by simp)))
    simp only [List.length_cons] at hl
    simp only [gather, flat]
    rw [if_neg (by simp; omega), gather_eq l (i + 1) _ (fun y hy => h y (by simp [hy])) (by simp; omega), List.append_assoc]
theorem flat_append : ∀ (xs ys : List Ax) (i : Nat), flat i (xs ++ ys) = flat i xs ++ flat (i + xs.length) ys
  | [], ys, i => by simp [flat]
  | x :: xs, ys, i => by
    simp only [List.cons_append, flat, List.length_cons, List.append_assoc]
    rw [flat_append xs ys (i + 1), show i + 1 + xs.length = i + (xs.length + 1) by omega]
theorem flat_shift (k : Nat) : ∀ (l : List Ax) (i : Nat), flat (i + k) l = (flat i l).map (shift (k : Int))
  | [], _ => rfl
  | x :: l, i => by
    simp only [flat, List.map_append]
    rw [show ((i + k : Nat) : Int) = (i : Int) + (k : Int) by omega, Ax.pieces_shift, show i + k + 1 = i + 1 + k by omega, flat_shift k l (i + 1)]
/-- each piece belongs to a member of the list, in order -/
theorem flat_all : ∀ (l : List Ax) (i : Nat), i + l.length ≤ 1024 → (∀ x ∈ l, x.ok) → (∀ x ∈ l, x.check = 0) → ∀ q ∈ flat i l, (i : Int) ≤ q.frm ∧ q.frm < ((i + l.length : Nat) : Int) ∧ q.sm ∧ q.valid = true
  | [], _, _, _, _ => by simp [flat]
  | x :: l, i, hi, hok, hc => by
    simp only [List.length_cons] at hi ⊢
    intro q hq
    simp only [flat] at hq
    rcases List.mem_append.1 hq with hq | hq
    · have h := Ax.pieces_all (f := (i : Int)) (by omega) (by omega) (hok x (by simp)) (hc x (by simp)) q hq
      exact ⟨by rw [h.frm]; omega, by rw [h.frm]; omega, h.sm, h.ok⟩
    · have h := flat_all l (i + 1) (by omega) (fun y hy => hok y (by simp [hy])) (fun y hy => hc y (by simp [hy])) q hq
      exact ⟨by omega, by omega, h.2.2⟩
def Mono (l : List Pc) : Prop := l.Pairwise fun p q => p.frm ≤ q.frm
theorem flat_mono : ∀ (l : List Ax) (i : Nat), i + l.length ≤ 1024 → (∀ x ∈ l, x.ok) → (∀ x ∈ l, x.check = 0) → Mono (flat i l)
  | [], _, _, _, _ => List.Pairwise.nil
  | x :: l, i, hi, hok, hc => by
    simp only [List.length_cons] at hi
    have h := Ax.pieces_all (f := (i : Int)) (by omega) (by omega) (hok x (by simp)) (hc x (by simp))
    have h2 := flat_all l (i + 1) (by omega) (fun y hy => hok y (by simp [hy])) (fun y hy => hc y (by simp [hy]))
    simp only [flat, Mono]
    rw [List.pairwise_append]
    refine ⟨?_, flat_mono l (i + 1) (by omega) (fun y hy => hok y (by simp [hy])) (fun y hy => hc y (by simp [hy])), fun p hp q hq => ?_⟩
    · rw [List.pairwise_iff_getElem]
      intro a b ha hb _
      rw [(h _ (List.getElem_mem ha)).frm, (h _ (List.getElem_mem hb)).frm]; omega
    · rw [(h p hp).frm]
      have := (h2 q hq).1
      omega
theorem firstBad_ne : ∀ {l : List Ax}, firstBad l = 0 → ∀ x ∈ l, x.check = 0
  | [], _, _, h => by cases h
  | y :: l, hb, x, hx => by
    simp only [firstBad] at hb
    split at hb
    · rename_i hy
      rcases List.mem_cons.1 hx with rfl | hx
      · exact hy
      · exact firstBad_ne hb x hx
    · rename_i hy; exact absurd hb hy
theorem piecesL_ok {l : List Ax} (hl : l.length ≤ 12) (h : ∀ x ∈ l, x.check = 0) : piecesL l = (flat 0 l, 0) := by
  unfold piecesL
  rw [if_neg (by omega), if_neg (by simp [firstBad_zero h]), gather_eq l 0 [] h (by simp; omega)]
  simp
theorem piecesL_bad {l : List Ax} (hl : l.length ≤ 12) (h : firstBad l ≠ 0) : piecesL l = ([], firstBad l) := by
  unfold piecesL
  rw [if_neg (by omega), if_pos h]
structure PartsLaw (l : List Ax) (k : Nat) (p a b : List Pc) (er ef eg : Int) : Prop where
  bad : er ≠ 0 → p = [] ∧ (ef ≠ 0 ∨ eg ≠ 0)
  ef : er = 0 → ef = 0
  eg : er = 0 → eg = 0
  eq : er = 0 → p = a ++ b.map (shift (k : Int))
  chk : er = 0 → checkP p = 0
  sm : ∀ q ∈ p, q.sm
  rng : er = 0 → ∀ q ∈ p, 0 ≤ q.frm ∧ q.frm < (l.length : Int)
  mono : er = 0 → Mono p
  len : p.length ≤ 12000 ∧ a.length ≤ 12000 ∧ b.length ≤ 12000
  fb : er = 0 → ∀ q ∈ b, 0 ≤ q.frm ∧ q.frm ≤ 12
theorem parts_law {l : List Ax} {k : Nat} (hl : l.length ≤ 12) (hk : k ≤ l.length) (hok : ∀ x ∈ l, x.ok) {p a b : List Pc} {er ef eg : Int} (hP : piecesL l = (p, er)) (hA : piecesL (l.take k) = (a, ef)) (hB : piecesL (l.drop k) = (b, eg)) : PartsLaw l k p a b er ef eg := by
  have hlt : (l.take k).length ≤ 12 := by simp; omega
  have hld : (l.drop k).length ≤ 12 := by simp; omega
  have lens : ∀ (m : List Ax) (q : List Pc) (e : Int), m.length ≤ 12 → piecesL m = (q, e) → q.length ≤ 12000 ∧ ((firstBad m = 0 ∧ e = 0 ∧ q = flat 0 m ∧ ∀ x ∈ m, x.check = 0) ∨ (firstBad m ≠ 0 ∧ e ≠ 0 ∧ q = [])) := by
    intro m q e hm he
    by_cases hb : firstBad m = 0
    · have hc := firstBad_ne hb
      rw [piecesL_ok hm hc] at he
      simp only [Prod.mk.injEq] at he
      obtain ⟨rfl, rfl⟩ := he
      have := flat_len 0 m hc
      exact ⟨by omega, .inl ⟨hb, rfl, rfl, hc⟩⟩
    · rw [piecesL_bad hm hb] at he
      simp only [Prod.mk.injEq] at he
      obtain ⟨rfl, rfl⟩ := he
      exact ⟨by simp, .inr ⟨hb, hb, rfl⟩⟩
  obtain ⟨lp, cp⟩ := lens l p er hl hP
  obtain ⟨la, ca⟩ := lens _ a ef hlt hA
  obtain ⟨lb, cb⟩ := lens _ b eg hld hB
  rcases cp with ⟨p0, rfl, rfl, pc⟩ | ⟨p0, p1, rfl⟩
  · have ct : ∀ x ∈ l.take k, x.check = 0 := fun x hx => pc x (List.mem_of_mem_take hx)
    have cd : ∀ x ∈ l.drop k, x.check = 0 := fun x hx => pc x (List.mem_of_mem_drop hx)
    have hall := flat_all l 0 (by omega) hok pc
    rcases ca with ⟨_, rfl, rfl, _⟩ | ⟨a0, _, _⟩
    · rcases cb with ⟨_, rfl, rfl, _⟩ | ⟨b0, _, _⟩
      · have halld := flat_all (l.drop k) 0 (by omega) (fun x hx => hok x (List.mem_of_mem_drop hx)) cd
        refine ⟨fun h => absurd rfl h, fun _ => rfl, fun _ => rfl, fun _ => ?_, fun _ => ?_, fun q hq => (hall q hq).2.2.1, fun _ q hq => ?_, fun _ => flat_mono l 0 (by omega) hok pc, ⟨lp, la, lb⟩, fun _ q hq => ?_⟩
        · rw [← flat_shift k (l.drop k) 0]
          have e : l = l.take k ++ l.drop k := (List.take_append_drop k l).symm
          have h2 := flat_append (l.take k) (l.drop k) 0
          rw [List.take_append_drop, List.length_take, Nat.min_eq_left hk] at h2
          exact h2
        · unfold checkP
          rw [if_neg (by omega), if_pos (List.all_eq_true.2 fun q hq => (hall q hq).2.2.2)]
        · have := hall q hq; exact ⟨by omega, by omega⟩
        · have := halld q hq; exact ⟨by omega, by omega⟩
      · exact absurd (firstBad_zero cd) b0
    · exact absurd (firstBad_zero ct) a0
  · refine ⟨fun _ => ⟨rfl, ?_⟩, fun h => absurd h p1, fun h => absurd h p1, fun h => absurd h p1, fun h => absurd h p1, fun q hq => by (cases hq), fun h => absurd h p1, fun h => absurd h p1, ⟨by simp, la, lb⟩, fun h => absurd h p1⟩
    rcases ca with ⟨a0, _, _, ac⟩ | ⟨_, a1, _⟩
    · rcases cb with ⟨b0, _, _, bc⟩ | ⟨_, b1, _⟩
      · exfalso
        apply p0
        apply firstBad_zero
        intro x hx
        rw [← List.take_append_drop k l] at hx
        rcases List.mem_append.1 hx with hx | hx
        · exact ac x hx
        · exact bc x hx
      · exact .inr b1
    · exact .inl a1
end Go.Vs

/-
  The pieces of one member of a base: different, few; the pieces of a goal: valid, different; they mention the atoms of its facts.
-/
namespace Go.Vs
open Go Go.Sx
section
variable {f : Int} {R : List Pc → List Pc → Prop} (hr : ∀ l, R l l) (ht : ∀ {a b c}, R a b → R b c → R a c) (hi : ∀ l p, R l (ins f l p))
include hr ht hi
theorem andP_rel (c : Con) : ∀ (r : List Con) (j : Nat) (a : Str) (l : List Pc), R l (c.andP f r j a l)
  | [], _, _, l => hr l
  | p :: r, j, a, l => ht (hi l _) (andP_rel c r (j + 1) _ _)
theorem leftP_rel : ∀ (m : Nat) (c : Con), c.sz ≤ m → ∀ l, R l (c.leftP f l)
  | 0, c, h => by have := c.sz_pos; omega
  | m + 1, c, h => fun l => by
    have key : ∀ ps : List Con, (∀ p ∈ ps, p.sz ≤ m) → ∀ l, R l (Con.leftP.lefts f ps l) := by
      intro ps
      induction ps with
      | nil => intro _ l; exact hr l
      | cons p ps ih => intro hp l; exact ht (leftP_rel m p (hp p (by simp)) l) (ih (fun q hq => hp q (by simp [hq])) _)
    have hk := key c.parts (fun p hp => by have := Con.sz_part hp; omega) l
    rw [Con.leftP_eq]
    split
    · exact ht hk (andP_rel hr ht hi c _ _ _ _)
    · split
      · exact ht hk (hi _ _)
      · split
        · exact hi _ _
        · exact hr l
theorem rightP_rel : ∀ (m : Nat) (c : Con), c.sz ≤ m → ∀ l, R l (c.rightP f l)
  | 0, c, h => by have := c.sz_pos; omega
  | m + 1, c, h => fun l => by
    have key : ∀ ps : List Con, (∀ p ∈ ps, p.sz ≤ m) → ∀ a l, R l (Con.rightP.rights f a ps l) := by
      intro ps
      induction ps with
      | nil => intro _ a l; exact hr l
      | cons p ps ih => intro hp a l; exact ht (hi _ _) (ht (rightP_rel m p (hp p (by simp)) _) (ih (fun q hq => hp q (by simp [hq])) _ _))
    have key2 : ∀ ps : List Con, (∀ p ∈ ps, p.sz ≤ m) → ∀ l, R l (Con.rightP.righty f ps l) := by
      intro ps
      induction ps with
      | nil => intro _ l; exact hr l
      | cons p ps ih => intro hp l; exact ht (rightP_rel m p (hp p (by simp)) l) (ih (fun q hq => hp q (by simp [hq])) _)
    have hps : ∀ p ∈ c.parts, p.sz ≤ m := fun p hp => by have := Con.sz_part hp; omega
    rw [Con.rightP_eq]
    split
    · exact key c.parts hps _ l
    · split
      · exact ht (hi _ _) (key2 c.parts hps _)
      · split
        · exact hi _ _
        · exact hr l
theorem chainP_rel (ro : Str) : ∀ (rs : List Str) (g : Str) (l : List Pc), R l (Ax.chainP f ro rs g l)
  | [], _, l => hr l
  | r :: t, g, l => ht (hi l _) (chainP_rel ro t _ _)
theorem ments_rel : ∀ (xs : List Str) (l : List Pc), R l (ments f xs l)
  | [], l => hr l
  | a :: r, l => ht (hi l _) (ments_rel r _)
theorem pieces_rel (x : Ax) : R [] (x.pieces f) := by
  have L := fun (c : Con) l => leftP_rel hr ht hi _ c (Nat.le_refl _) l
  have Q := fun (c : Con) l => rightP_rel hr ht hi _ c (Nat.le_refl _) l
  unfold Ax.pieces
  repeat' split
  · exact ht (L _ _) (ht (Q _ _) (hi _ _))
  · exact ht (L _ _) (ht (Q _ _) (ht (hi _ _) (ht (L _ _) (ht (Q _ _) (hi _ _)))))
  · exact ht (L _ _) (ht (L _ _) (hi _ _))
  · exact ht (Q _ _) (hi _ _)
  · exact hi _ _
  · exact chainP_rel hr ht hi _ _ _ _
  · exact hi _ _
  · exact ht (Q _ _) (hi _ _)
  · exact hi _ _
end
/-- grows, and stays without repetition -/
structure Gr (a b : List Pc) : Prop where
  nodup : a.Nodup → b.Nodup
  sub : ∀ q ∈ a, q ∈ b
theorem Gr.refl (l : List Pc) : Gr l l := ⟨id, fun _ h => h⟩
theorem Gr.trans {a b c : List Pc} (h : Gr a b) (k : Gr b c) : Gr a c := ⟨fun q => k.nodup (h.nodup q), fun q hq => k.sub q (h.sub q hq)⟩
theorem Gr.ins (f : Int) (l : List Pc) (p : Pc) : Gr l (ins f l p) := by
  unfold Vs.ins
  split
  · exact Gr.refl l
  · rename_i h
    refine ⟨fun hn => ?_, fun q hq => List.mem_append_left _ hq⟩
    rw [List.nodup_append]
    exact ⟨hn, by simp, fun a ha b hb => by simp only [List.mem_singleton] at hb; subst hb; rintro rfl; exact h ha⟩
theorem ins_mem (f : Int) (l : List Pc) (p : Pc) : { p with frm := f } ∈ ins f l p := by
  unfold ins
  split
  · assumption
  · simp
theorem ments_mem (f : Int) : ∀ (xs : List Str) (l : List Pc), ∀ a ∈ xs, { subp a [42] with frm := f } ∈ ments f xs l
  | [], _, _, h => by cases h
  | x :: xs, l, a, h => by
    rcases List.mem_cons.1 h with rfl | h
    · exact (ments_rel (f := f) Gr.refl Gr.trans (Gr.ins f) xs _).sub _ (ins_mem f l _)
    · exact ments_mem f xs _ a h
theorem ments_all {f : Int} (h0 : -1 ≤ f) (h1 : f < 1024) : ∀ (xs : List Str) (l : List Pc), (∀ a ∈ xs, atomS a = true ∧ a.length ≤ 1000000000000) → (∀ q ∈ l, PQ f q) → ∀ q ∈ ments f xs l, PQ f q
  | [], _, _, hl => hl
  | a :: r, l, ha, hl => by
    have h := ha a (by simp)
    exact ments_all h0 h1 r _ (fun b hb => ha b (by simp [hb])) (ins_all hl ⟨rfl, ⟨by simp [subp]; omega, by simp [subp], by simp [subp], by simp [subp], by simp [subp], by simp [subp]⟩, val1 h0 h1 h.1 rfl⟩)
def wgt (c : Con) : Nat := if c.kind = 0 then 0 else c.sz
structure SmallLaw (x : Ax) : Prop where
  few : 1 ≤ (x.pieces 0).length ∧ (x.pieces 0).length ≤ 4 * (wgt x.left + wgt x.right) + 3
  nodup : (x.pieces 0).Nodup
  gnodup : x.goalP.1.Nodup
  gfrm : ∀ q ∈ x.goalP.1, q.frm = -1
  role : x.kind = 5 ∨ x.kind = 6 ∨ x.kind = 7 → x.goalP = ([], [], 22)
  rest : ¬ (x.kind = 5 ∨ x.kind = 6 ∨ x.kind = 7) → x.goalP.2.2 = 0 ∧ checkP x.goalP.1 = 0 ∧ 1 ≤ x.goalP.2.1.length ∧ x.goalP.2.1.length ≤ 2 ∧ ∀ g ∈ x.goalP.2.1, (⟨1, g.a, [], [42], [], [], [], 0, 0, -1⟩ : Pc) ∈ x.goalP.1 ∧ (⟨1, g.b, [], [42], [], [], [], 0, 0, -1⟩ : Pc) ∈ x.goalP.1
  sm : ∀ q ∈ x.goalP.1, q.sm
  len : x.goalP.1.length ≤ 2000
theorem goal_bad {x : Ax} (h : x.check ≠ 0) : x.goalP = ([], [], x.check) := by unfold Ax.goalP; rw [if_pos h]
theorem kind_pos {c : Con} (h : c.check = 0) : wgt c = c.sz := by
  have F := Con.fields (Con.check_zero h).1
  unfold wgt
  rw [if_neg (by have := F.k1; omega)]
theorem pieces_few {x : Ax} (hc : x.check = 0) : (x.pieces 0).length ≤ 4 * (wgt x.left + wgt x.right) + 3 := by
  have G := Ax.good_of hc
  have L := fun (c : Con) l => Con.leftP_len 0 _ c (Nat.le_refl _) l
  have Q := fun (c : Con) l => Con.rightP_len 0 _ c (Nat.le_refl _) l
  have wl : x.kind ≤ 3 → wgt x.left = x.left.sz := fun h => kind_pos (G.left h)
  have wr : x.kind ≤ 4 ∨ x.kind = 8 → wgt x.right = x.right.sz := fun h => kind_pos (G.right h)
  have pl := x.left.sz_pos
  have pr := x.right.sz_pos
  have n0 : ([] : List Pc).length = 0 := rfl
  have I := fun l p => ins_len 0 l p
  have hch : ∀ (ro : Str) (rs : List Str) (f : Str) (l : List Pc), (Ax.chainP 0 ro rs f l).length ≤ l.length + rs.length := by
    intro ro rs
    induction rs with
    | nil => intro f l; simp [Ax.chainP]
    | cons r t ih =>
      intro f l
      simp only [Ax.chainP]
      have a1 := ih (if t = [] then ro else f ++ [46] ++ r) (ins 0 l ⟨6, [], [], [], f, r, if t = [] then ro else f ++ [46] ++ r, 0, 0, 0⟩)
      have a2 := I l ⟨6, [], [], [], f, r, if t = [] then ro else f ++ [46] ++ r, 0, 0, 0⟩
      simp only [List.length_cons]
      omega
  unfold Ax.pieces
  split
  · have := wl (by omega); have := wr (by omega)
    have a1 := L x.left []; have a2 := Q x.right (x.left.leftP 0 []); have a3 := I (x.right.rightP 0 (x.left.leftP 0 [])) ⟨1, x.left.atom, [], x.right.atom, [], [], [], 0, 0, 0⟩
    omega
  · split
    · have := wl (by omega); have := wr (by omega)
      have a1 := L x.left []; have a2 := Q x.right (x.left.leftP 0 []); have a3 := I (x.right.rightP 0 (x.left.leftP 0 [])) ⟨1, x.left.atom, [], x.right.atom, [], [], [], 0, 0, 0⟩
      have a4 := L x.right (ins 0 (x.right.rightP 0 (x.left.leftP 0 [])) ⟨1, x.left.atom, [], x.right.atom, [], [], [], 0, 0, 0⟩)
      have a5 := Q x.left (x.right.leftP 0 (ins 0 (x.right.rightP 0 (x.left.leftP 0 [])) ⟨1, x.left.atom, [], x.right.atom, [], [], [], 0, 0, 0⟩))
      have a6 := I (x.left.rightP 0 (x.right.leftP 0 (ins 0 (x.right.rightP 0 (x.left.leftP 0 [])) ⟨1, x.left.atom, [], x.right.atom, [], [], [], 0, 0, 0⟩))) ⟨1, x.right.atom, [], x.left.atom, [], [], [], 0, 0, 0⟩
      omega
    · split
      · have := wl (by omega); have := wr (by omega)
        have a1 := L x.left []; have a2 := L x.right (x.left.leftP 0 []); have a3 := I (x.right.leftP 0 (x.left.leftP 0 [])) ⟨2, x.left.atom, x.right.atom, [33], [], [], [], 0, 0, 0⟩
        omega
      · split
        · have := wr (by omega)
          have a1 := Q x.right []; have a3 := I (x.right.rightP 0 []) ⟨4, [42], [], x.right.atom, x.role, [], [], 0, 0, 0⟩
          omega
        · split
          · have := I [] ⟨5, [], [], [], x.roles.headD [], [], x.role, 0, 0, 0⟩; omega
          · split
            · rename_i h6
              have := G.chain h6
              have := hch x.role (x.roles.drop 1) (x.roles.headD []) []
              simp only [List.length_drop] at this
              omega
            · split
              · have := I [] ⟨7, [], [], [], x.role, [], [], 0, 0, 0⟩; omega
              · split
                · have := wr (by omega)
                  have a1 := Q x.right []; have a3 := I (x.right.rightP 0 []) ⟨1, [123] ++ x.a ++ [125], [], x.right.atom, [], [], [], 0, 0, 0⟩
                  omega
                · have := I [] ⟨3, [123] ++ x.a ++ [125], [], [123] ++ x.b ++ [125], x.role, [], [], 0, 0, 0⟩; omega
/-- what is known of a goal's list -/
structure GoalOk (p : List Pc) (l : List Fc) : Prop where
  gr : p.Nodup
  pq : ∀ q ∈ p, PQ (-1) q
  len : p.length ≤ 2000
  one : 1 ≤ l.length ∧ l.length ≤ 2
  ment : ∀ g ∈ l, (⟨1, g.a, [], [42], [], [], [], 0, 0, -1⟩ : Pc) ∈ p ∧ (⟨1, g.b, [], [42], [], [], [], 0, 0, -1⟩ : Pc) ∈ p
theorem goal_ok {x : Ax} (hok : x.ok) (hc : x.check = 0) (hk : ¬ (x.kind = 5 ∨ x.kind = 6 ∨ x.kind = 7)) : GoalOk x.goalP.1 x.goalP.2.1 ∧ x.goalP.2.2 = 0 := by
  have G := Ax.good_of hc
  have k1 := G.k1
  have k9 := G.k9
  have gr := fun l p => Gr.ins (-1) l p
  have L := fun (c : Con) l => leftP_rel (f := -1) Gr.refl Gr.trans gr _ c (Nat.le_refl _) l
  have Q := fun (c : Con) l => rightP_rel (f := -1) Gr.refl Gr.trans gr _ c (Nat.le_refl _) l
  have M := fun xs l => ments_rel (f := -1) Gr.refl Gr.trans gr xs l
  have mm := fun xs l a h => ments_mem (-1) xs l a h
  have LA := fun (c : Con) (hok : c.ok) (hc : c.check = 0) l hl => Con.leftP_all (f := -1) (by decide) (by decide) _ c (Nat.le_refl _) hok hc l hl
  have QA := fun (c : Con) (hok : c.ok) (hc : c.check = 0) l hl => Con.rightP_all (f := -1) (by decide) (by decide) _ c (Nat.le_refl _) hok hc l hl
  have MA := fun xs l hx hl => ments_all (f := -1) (by decide) (by decide) xs l hx hl
  have n : ∀ q ∈ ([] : List Pc), PQ (-1) q := fun q hq => by cases hq
  have A := fun (c : Con) (hok : c.ok) (hc : c.check = 0) => (⟨Con.atom_ok hc, by have := Con.atom_len hok hc; omega⟩ : atomS c.atom = true ∧ c.atom.length ≤ 1000000000000)
  have Ll := fun (c : Con) l => Con.leftP_len (-1) _ c (Nat.le_refl _) l
  have Ql := fun (c : Con) l => Con.rightP_len (-1) _ c (Nat.le_refl _) l
  have Ml := fun xs l => ments_len (-1) xs l
  have Il := fun l p => ins_len (-1) l p
  have sl : x.kind ≤ 3 → x.left.sz ≤ 64 := fun h => (Con.check_zero (G.left h)).2
  have sr : x.kind ≤ 4 ∨ x.kind = 8 → x.right.sz ≤ 64 := fun h => (Con.check_zero (G.right h)).2
  have nd : ([] : List Pc).Nodup := List.nodup_nil
  have two : ∀ (a b : Str), atomS a = true ∧ a.length ≤ 1000000000000 → atomS b = true ∧ b.length ≤ 1000000000000 → ∀ c ∈ [a, b], atomS c = true ∧ c.length ≤ 1000000000000 := by
    intro a b ha hb c hc
    simp only [List.mem_cons, List.not_mem_nil, or_false] at hc
    rcases hc with rfl | rfl
    · exact ha
    · exact hb
  have m2 : ∀ (a b : Str) (p : List Pc) (r : Str), Gr (ments (-1) [a, b] []) p → ∀ g ∈ [(⟨1, a, b, r, 0, 0⟩ : Fc)], (⟨1, g.a, [], [42], [], [], [], 0, 0, -1⟩ : Pc) ∈ p ∧ (⟨1, g.b, [], [42], [], [], [], 0, 0, -1⟩ : Pc) ∈ p := by
    intro a b p r hg g hm
    simp only [List.mem_singleton] at hm
    subst hm
    exact ⟨hg.sub _ (mm [a, b] [] a (by simp)), hg.sub _ (mm [a, b] [] b (by simp))⟩
  unfold Ax.goalP
  rw [if_neg (by omega)]
  split
  · have l := G.left (by omega); have r := G.right (by omega); have a1 := A _ hok.left l; have a2 := A _ hok.right r; have := sl (by omega); have := sr (by omega)
    have g1 := Q x.left (ments (-1) [x.left.atom, x.right.atom] []); have g2 := L x.right (x.left.rightP (-1) (ments (-1) [x.left.atom, x.right.atom] []))
    refine ⟨⟨(Gr.trans (M _ _) (Gr.trans g1 g2)).nodup nd, LA _ hok.right r _ (QA _ hok.left l _ (MA _ _ (two _ _ a1 a2) n)), ?_, by simp, m2 _ _ _ _ (Gr.trans g1 g2)⟩, rfl⟩
    have := Ml [x.left.atom, x.right.atom] []; have := Ql x.left (ments (-1) [x.left.atom, x.right.atom] []); have := Ll x.right (x.left.rightP (-1) (ments (-1) [x.left.atom, x.right.atom] []))
    simp only [List.length_cons, List.length_nil] at *
    omega
  · split
    · have l := G.left (by omega); have r := G.right (by omega); have a1 := A _ hok.left l; have a2 := A _ hok.right r; have := sl (by omega); have := sr (by omega)
      have g1 := Q x.left (ments (-1) [x.left.atom, x.right.atom] []); have g2 := L x.right (x.left.rightP (-1) (ments (-1) [x.left.atom, x.right.atom] []))
      have g3 := Q x.right (x.right.leftP (-1) (x.left.rightP (-1) (ments (-1) [x.left.atom, x.right.atom] []))); have g4 := L x.left (x.right.rightP (-1) (x.right.leftP (-1) (x.left.rightP (-1) (ments (-1) [x.left.atom, x.right.atom] []))))
      have gg := Gr.trans g1 (Gr.trans g2 (Gr.trans g3 g4))
      refine ⟨⟨(Gr.trans (M _ _) gg).nodup nd, LA _ hok.left l _ (QA _ hok.right r _ (LA _ hok.right r _ (QA _ hok.left l _ (MA _ _ (two _ _ a1 a2) n)))), ?_, by simp, ?_⟩, rfl⟩
      · have := Ml [x.left.atom, x.right.atom] []; have := Ql x.left (ments (-1) [x.left.atom, x.right.atom] []); have := Ll x.right (x.left.rightP (-1) (ments (-1) [x.left.atom, x.right.atom] []))
        have := Ql x.right (x.right.leftP (-1) (x.left.rightP (-1) (ments (-1) [x.left.atom, x.right.atom] []))); have := Ll x.left (x.right.rightP (-1) (x.right.leftP (-1) (x.left.rightP (-1) (ments (-1) [x.left.atom, x.right.atom] []))))
        simp only [List.length_cons, List.length_nil] at *
        omega
      · intro g hg
        simp only [List.mem_cons, List.not_mem_nil, or_false] at hg
        have e1 := mm [x.left.atom, x.right.atom] [] x.left.atom (by simp)
        have e2 := mm [x.left.atom, x.right.atom] [] x.right.atom (by simp)
        rcases hg with rfl | rfl
        · exact ⟨gg.sub _ e1, gg.sub _ e2⟩
        · exact ⟨gg.sub _ e2, gg.sub _ e1⟩
    · split
      · have l := G.left (by omega); have r := G.right (by omega); have a1 := A _ hok.left l; have a2 := A _ hok.right r; have := sl (by omega); have := sr (by omega)
        have o1 := Con.operandN_len hok.left; have o2 := Con.operandN_len hok.right
        have ax : atomS x.disj = true ∧ x.disj.length ≤ 1000000000000 := by
          refine ⟨?_, by simp [Ax.disj]; omega⟩
          have e : x.disj = [60] ++ (x.left.operandN ++ [32, 97, 110, 100, 32] ++ x.right.operandN) ++ [62] := by simp [Ax.disj]
          rw [e]
          exact atom_angle (by simp)
        have b1 : ∀ (l : List Pc), (∀ q ∈ l, PQ (-1) q) → ∀ (c : Str), atomS c = true → c.length ≤ 1000000000000 → ∀ q ∈ ins (-1) l (subp x.disj c), PQ (-1) q := fun l hl c hc hcl => ins_all hl ⟨rfl, ⟨by simp [subp]; omega, by simp [subp], by simp [subp]; omega, by simp [subp], by simp [subp], by simp [subp]⟩, val1 (by decide) (by decide) ax.1 hc⟩
        have g0 := gr (ments (-1) [x.disj, [33]] []) (subp x.disj x.left.atom)
        have g1 := Q x.left (ins (-1) (ments (-1) [x.disj, [33]] []) (subp x.disj x.left.atom))
        have g2 := gr (x.left.rightP (-1) (ins (-1) (ments (-1) [x.disj, [33]] []) (subp x.disj x.left.atom))) (subp x.disj x.right.atom)
        have g3 := Q x.right (ins (-1) (x.left.rightP (-1) (ins (-1) (ments (-1) [x.disj, [33]] []) (subp x.disj x.left.atom))) (subp x.disj x.right.atom))
        have gg := Gr.trans g0 (Gr.trans g1 (Gr.trans g2 g3))
        refine ⟨⟨(Gr.trans (M _ _) gg).nodup nd, QA _ hok.right r _ (b1 _ (QA _ hok.left l _ (b1 _ (MA _ _ (two _ _ ax ⟨rfl, by simp⟩) n) _ a1.1 a1.2)) _ a2.1 a2.2), ?_, by simp, m2 _ _ _ _ gg⟩, rfl⟩
        have := Ml [x.disj, [33]] []; have := Il (ments (-1) [x.disj, [33]] []) (subp x.disj x.left.atom); have := Ql x.left (ins (-1) (ments (-1) [x.disj, [33]] []) (subp x.disj x.left.atom))
        have := Il (x.left.rightP (-1) (ins (-1) (ments (-1) [x.disj, [33]] []) (subp x.disj x.left.atom))) (subp x.disj x.right.atom)
        have := Ql x.right (ins (-1) (x.left.rightP (-1) (ins (-1) (ments (-1) [x.disj, [33]] []) (subp x.disj x.left.atom))) (subp x.disj x.right.atom))
        simp only [List.length_cons, List.length_nil] at *
        omega
      · split
        · have r := G.right (by omega); have a2 := A _ hok.right r; have := sr (by omega); have p := G.role (by omega); have pl := plain_lt p
          have ay : atomS x.doms = true ∧ x.doms.length ≤ 1000000000000 := by
            refine ⟨?_, by simp [Ax.doms]; omega⟩
            have e : x.doms = [60] ++ ([115, 111, 109, 101, 32] ++ x.role ++ [32, 101, 118, 101, 114, 121, 116, 104, 105, 110, 103]) ++ [62] := by simp [Ax.doms]
            rw [e]
            exact atom_angle (by simp)
          have g0 := gr (ments (-1) [x.doms, x.right.atom] []) ⟨3, x.doms, [], [42], x.role, [], [], 0, 0, 0⟩
          have g1 := L x.right (ins (-1) (ments (-1) [x.doms, x.right.atom] []) ⟨3, x.doms, [], [42], x.role, [], [], 0, 0, 0⟩)
          have gg := Gr.trans g0 g1
          refine ⟨⟨(Gr.trans (M _ _) gg).nodup nd, LA _ hok.right r _ (ins_all (MA _ _ (two _ _ ay a2) n) ⟨rfl, ⟨by dsimp only; omega, by simp, by simp, by dsimp only; omega, by simp, by simp⟩, val3 (by decide) (by decide) ay.1 (role_plain p) rfl⟩), ?_, by simp, m2 _ _ _ _ gg⟩, rfl⟩
          have := Ml [x.doms, x.right.atom] []; have := Il (ments (-1) [x.doms, x.right.atom] []) ⟨3, x.doms, [], [42], x.role, [], [], 0, 0, 0⟩; have := Ll x.right (ins (-1) (ments (-1) [x.doms, x.right.atom] []) ⟨3, x.doms, [], [42], x.role, [], [], 0, 0, 0⟩)
          simp only [List.length_cons, List.length_nil] at *
          omega
        · split
          · have r := G.right (by omega); have a2 := A _ hok.right r; have := sr (by omega); have p := G.a (by omega); have pl := person_lt p
            have ai : atomS (indS x.a) = true ∧ (indS x.a).length ≤ 1000000000000 := ⟨atom_ind p, by simp [indS]; omega⟩
            have g1 := L x.right (ments (-1) [indS x.a, x.right.atom] [])
            refine ⟨⟨(Gr.trans (M _ _) g1).nodup nd, LA _ hok.right r _ (MA _ _ (two _ _ ai a2) n), ?_, by simp, m2 _ _ _ _ g1⟩, rfl⟩
            have := Ml [indS x.a, x.right.atom] []; have := Ll x.right (ments (-1) [indS x.a, x.right.atom] [])
            simp only [List.length_cons, List.length_nil] at *
            omega
          · split
            · have p := G.a (by omega); have pl := person_lt p; have p2 := G.b (by omega); have pl2 := person_lt p2
              have ai : atomS (indS x.a) = true ∧ (indS x.a).length ≤ 1000000000000 := ⟨atom_ind p, by simp [indS]; omega⟩
              have bi : atomS (indS x.b) = true ∧ (indS x.b).length ≤ 1000000000000 := ⟨atom_ind p2, by simp [indS]; omega⟩
              refine ⟨⟨(M _ _).nodup nd, MA _ _ (two _ _ ai bi) n, ?_, by simp, ?_⟩, rfl⟩
              · have := Ml [indS x.a, indS x.b] []
                simp only [List.length_cons, List.length_nil] at *
                omega
              · intro g hm
                simp only [List.mem_singleton] at hm
                subst hm
                exact ⟨mm [indS x.a, indS x.b] [] (indS x.a) (by simp), mm [indS x.a, indS x.b] [] (indS x.b) (by simp)⟩
            · exfalso; omega
theorem small_law {x : Ax} (hok : x.ok) (hc : x.check = 0) : SmallLaw x := by
  have G := Ax.good_of hc
  have hne := Ax.pieces_ne 0 G
  have hp1 : 1 ≤ (x.pieces 0).length := List.length_pos_iff.2 hne
  have hrole : x.kind = 5 ∨ x.kind = 6 ∨ x.kind = 7 → x.goalP = ([], [], 22) := fun h => by
    unfold Ax.goalP
    rw [if_neg (by omega)]
    repeat rw [if_neg (by omega)]
  by_cases hk : x.kind = 5 ∨ x.kind = 6 ∨ x.kind = 7
  · have e := hrole hk
    refine ⟨⟨hp1, pieces_few hc⟩, (pieces_rel (f := 0) Gr.refl Gr.trans (Gr.ins 0) x).nodup List.nodup_nil, by rw [e]; simp, by rw [e]; simp, hrole, fun h => absurd hk h, by rw [e]; simp, by rw [e]; simp⟩
  · obtain ⟨g, e⟩ := goal_ok hok hc hk
    refine ⟨⟨hp1, pieces_few hc⟩, (pieces_rel (f := 0) Gr.refl Gr.trans (Gr.ins 0) x).nodup List.nodup_nil, g.gr, fun q hq => (g.pq q hq).frm, hrole, fun _ => ⟨e, ?_, g.one.1, g.one.2, g.ment⟩, fun q hq => (g.pq q hq).sm, g.len⟩
    unfold checkP
    rw [if_neg (by have := g.len; omega), if_pos (List.all_eq_true.2 fun q hq => (g.pq q hq).ok)]
theorem piecesL_one (x : Ax) : piecesL [x] = if x.check = 0 then (x.pieces 0, 0) else ([], x.check) := by
  by_cases hc : x.check = 0
  · rw [if_pos hc]
    have := piecesL_ok (l := [x]) (by simp) (by simpa using hc)
    rw [this]
    simp [flat]
  · rw [if_neg hc, piecesL_bad (by simp) (by simp [firstBad, hc])]
    simp [firstBad, hc]
end Go.Vs

/-
  My own contracts.
-/
namespace Go.Proofs.YtoafjmalfclpoaaGreatDoor
open Go Go.Sx Go.Proofs
set_option linter.unusedVariables false
attribute [local irreducible] Code.wp wpList wpAnyH

open Go.Vs
theorem yld_addW {N : Nat} {fr : Fr} {H : Hp} {Γ : List Fct} {P : Program} {ty t t' : TypeId} {x y : Operand} {m n : Int} (hx : Fr.ev fr x = some (.int .i64 m)) (hy : Fr.ev fr y = some (.int .i64 n)) : Yld P N fr H Γ (.binOp .add t x y t') ty (.int .i64 (IntKind.wrap .i64 (m + n))) :=
  fun a v h1 _ _ _ _ _ => by simp [execOp, h1.ev hx, h1.ev hy, eqGuard, binOp, Op.intArith]
def wz (n : Nat) : Int := IntKind.wrap .i64 (n : Int)
theorem wz_succ (n : Nat) : IntKind.wrap .i64 (wz n + 1) = wz (n + 1) := by
  unfold wz
  rw [IntKind.wrap_i64, IntKind.wrap_i64, IntKind.wrap_i64]
  omega
theorem wz_small {n : Nat} (h : n ≤ 1000000) : wz n = (n : Int) := wrap64 (by omega) (by omega)
theorem Con.fold_cnt : ∀ (m : Nat) (c : Con), c.sz ≤ m → ∀ n, Con.fold Con.cnt c n = .inl (n + c.sz)
  | 0, c, h => by have := c.sz_pos; omega
  | m + 1, c, h => fun n => by
    have key : ∀ ps : List Con, (∀ p ∈ ps, p.sz ≤ m) → ∀ n, Con.fold.folds Con.cnt ps n = .inl (n + Con.sz.szs ps) := by
      intro ps
      induction ps with
      | nil => intro _ n; simp [Con.fold.folds, Con.sz.szs]
      | cons p ps ih =>
        intro hp n
        simp only [Con.fold.folds, Con.fold_cnt m p (hp p (by simp)) n, Con.sz.szs]
        rw [ih (fun q hq => hp q (by simp [hq]))]
        congr 1; omega
    rw [Con.fold_eq]
    simp only [Con.cnt]
    rw [key c.parts (fun p hp => by have := Con.sz_part hp; omega)]
    congr 1
    cases c; simp only [Con.sz, Con.parts]; omega

theorem size_c (c : Con) (hok : c.ok) (hz0 : c.sz ≤ 1000000) : Tri Tryz.prog 57 #[c.val] [] [c.memF] (fun _ : Unit => .int .i64 (c.sz : Int)) (fun _ => []) (fun _ => []) := by
  refine tri_of_bodyM Tryz.func57 rfl rfl Tryz.ntmps57 rfl fun v0 => ?_
  refine run_seq ?_
  refine run_region ?_
  refine ops_box rfl rfl fun b1 => ?_
  refine ops_alloc Tryz.zeroValue3 rfl fun b2 => ?_
  refine ops_nil ?_
  refine fin_next rfl ?_
  refine run_seq ?_
  refine run_seq ?_
  refine run_region ?_
  refine ops_val (yld_loadC 1 Tryz.isAgg38 Tryz.sizeOf38 rfl rfl) rfl ?_
  refine ops_call (walk_c c) rfl (.refl _) (fun _ _ _ => trivial) rfl fun b => ?_
  refine ops_nil ?_
  refine fin_next rfl ?_
  refine run_block ?_
  refine ok_fr [(2, .pointer (some ⟨b2, 0, none⟩)), (4, .func (.func 135) #[] #[.pointer (some ⟨b, 0, none⟩)])] ⟨rfl, rfl, trivial⟩ ?_
  refine ok_weak (H' := [_, _]) (F := [_]) (.refl _) (fun _ _ h => h) ?_
  refine run_range (α := {c : Con // c.ok}) (xv := fun x => x.1.val) (good := fun _ => True) (stp := fun x => Con.cnt x.1) (Γx := fun x => [x.1.memF]) (Γi := [Con.memF c]) (Hj := fun n : Nat => [(b2, .cells #[.int .i64 (wz n)] 3 (0, 0))]) (Hx := fun _ : Empty => []) (Hc := [(b, .cells c.cells.toArray 38 (0, 0))]) (caps := [.pointer (some ⟨b, 0, none⟩)]) 0 (Con.fold Con.cnt c 0) rfl (.refl _) (fun v _ h => h) ?_ ?_ ?_ ?_
  · rintro l D rec hp hst hpe ht hasg hbody s ⟨x, hx⟩ -
    refine ytri_round (ι := Unit) (Hj := fun n : Nat => [(b2, .cells #[.int .i64 (wz n)] 3 (0, 0))]) (Hx := fun _ : Empty => []) (s := s) (res := Con.cnt x s) (Γ := [x.memF]) (fun _ => [(2, .pointer (some ⟨b2, 0, none⟩))]) (fun _ => [(b2, .cells #[.int .i64 (wz s)] 3 (0, 0))]) hp hst hpe ht rfl ?_ ?_
    · intro n v0 H0 HL
      rw [hasg]
      refine runI_skip ?_
      refine finI_end rfl ?_
      exact midI_done () ⟨rfl, trivial⟩ (F := []) (by rw [List.append_nil]) (fun _ _ h => h)
    · intro n v0 H0 HL _
      rw [hbody]
      refine runI_block ?_
      refine runI_region ?_
      refine opsI_val (opn_round _) (yld_load 0 Tryz.isAgg3 rfl rfl rfl) rfl rfl ?_
      refine opsI_val (opn_round _) (yld_eq (yld_addW rfl rfl) (show _ = Value.int .i64 (wz (s + 1)) from congrArg (Value.int .i64) (wz_succ s))) rfl rfl ?_
      refine opsI_store (opn_round _) 0 Tryz.sizeOf3 rfl rfl rfl rfl rfl rfl ?_
      refine opsI_nil ?_
      refine finI_end rfl ?_
      exact round_end (s + 1) rfl (G := []) (by rw [List.append_nil]; exact .refl _)
  · intro l Gj Gx hY
    exact walk1_c (E := []) (good := fun _ => True) (fun _ _ _ _ => trivial) (fun s x hx _ => hY s ⟨x, hx⟩ trivial) _ hok trivial 0
  · intro s hs D l r
    rw [Con.fold_cnt _ _ (Nat.le_refl _)] at hs
    obtain rfl : 0 + c.sz = s := Sum.inl.inj hs
    have hz : wz (0 + c.sz) = (c.sz : Int) := by rw [Nat.zero_add]; exact wz_small hz0
    refine finI_next rfl ?_
    refine runI_seq ?_
    refine runI_region ?_
    refine opsI_val opn_wide (yld_load 1 Tryz.isAgg3 rfl rfl rfl) rfl rfl ?_
    refine opsI_store opn_wide 1 Tryz.sizeOf3 rfl rfl rfl rfl rfl rfl ?_
    refine opsI_nil ?_
    refine finI_next rfl ?_
    refine runI_ret ?_
    exact retMD (G := [_, _, _]) () (fun a v h1 h2 => by rw [← hz]; exact res_cell 1 Tryz.results57 Tryz.isAgg3 rfl rfl a v h1 h2) (perm_at (i := 3) rfl) ⟨_, .refl _⟩ rfl
  · intro t hs D l r
    cases t

end Go.Proofs.YtoafjmalfclpoaaGreatDoor

/-
  My own contracts.
-/
namespace Go.Proofs.YtoafjmalfclpoaaGreatDoor
open Go Go.Sx Go.Proofs
set_option linter.unusedVariables false
attribute [local irreducible] Code.wp wpList wpAnyH

open Go.Vs
structure PL where
  l : List Pc
  ad : Option Addr
  cap : Nat
def PL.cells (x : PL) : List Value := [.slice x.ad x.l.length x.cap]
theorem PL.cells_len (x : PL) : x.cells.length = 1 := rfl
theorem pl_two {x a b : PL} {v : Vw} (hm : x ∈ [a, b]) (h1 : (rowF a.ad (List.flatMap Pc.cells a.l)).p v) (h2 : (rowF b.ad (List.flatMap Pc.cells b.l)).p v) : (rowF (PL.ad x) (List.flatMap Pc.cells (PL.l x))).p v := by
  simp only [List.mem_cons, List.not_mem_nil, or_false] at hm
  rcases hm with rfl | rfl
  · exact h1
  · exact h2

theorem weight_c (c : Con) (hok : c.ok) (hz : wgt c ≤ 1000000) : Tri Tryz.prog 21 #[Con.val c] [] [Con.memF c] (fun _ : Unit => .int .i64 (wgt c : Int)) (fun _ => []) (fun _ => []) := by
  refine tri_of_body Tryz.func21 rfl rfl Tryz.ntmps21 rfl fun v0 => ?_
  refine run_seq ?_
  refine run_region ?_
  refine ops_box rfl rfl fun b1 => ?_
  refine ops_val (yld_assign rfl) rfl ?_
  refine ops_nil ?_
  refine fin_next rfl ?_
  refine run_seq ?_
  refine run_seq ?_
  refine run_region ?_
  refine ops_val (yld_field Tryz.runUnderlying38 rfl rfl rfl Tryz.sizeOf3) rfl ?_
  refine ops_val (yld_load 0 Tryz.isAgg3 rfl rfl rfl) rfl ?_
  refine ops_valB (yld_eql rfl rfl) rfl fun r1 hr1 => ?_
  refine ops_nil ?_
  refine fin_next rfl ?_
  cases r1
  · skip
    replace hr1 := ne_of_beq_false hr1
    refine run_cond_f rfl ?_
    refine run_skip ?_
    refine fin_next rfl ?_
    refine run_seq ?_
    refine run_region ?_
    refine ops_val (yld_loadS 0 Tryz.isAgg38 Tryz.sizeOf38 rfl rfl rfl) rfl ?_
    refine ops_call (size_c c hok (by unfold wgt at hz; rw [if_neg (by assumption)] at hz; exact hz)) rfl pf_nil (fun v _ h => by exact ⟨h.1, trivial⟩) rfl fun _ => ?_
    refine ops_val (yld_assign rfl) rfl ?_
    refine ops_nil ?_
    refine fin_next rfl ?_
    refine run_ret ?_
    exact ret1 Tryz.results21 () (get_int rfl (by unfold wgt; simp [*])) pf_nil (fun _ _ _ => trivial)
  · skip
    replace hr1 := eq_of_beq hr1
    refine run_cond_t rfl ?_
    refine run_seq ?_
    refine run_region ?_
    refine ops_val (yld_assign rfl) rfl ?_
    refine ops_nil ?_
    refine fin_next rfl ?_
    refine run_ret ?_
    exact ret1 Tryz.results21 () (get_int rfl (by unfold wgt; simp [*])) pf_nil (fun _ _ _ => trivial)

theorem nodup_ne {l : List Pc} (h : l.Nodup) {i j : Nat} {x y : Pc} (hx : l[i]? = some x) (hy : l[j]? = some y) (hij : i ≠ j) : x ≠ y := by
  rintro rfl
  have hi := (List.getElem?_eq_some_iff.1 hx).1
  have hj := (List.getElem?_eq_some_iff.1 hy).1
  rw [List.getElem?_eq_getElem hi, Option.some.injEq] at hx
  rw [List.getElem?_eq_getElem hj, Option.some.injEq] at hy
  rcases Nat.lt_or_gt_of_ne hij with h1 | h1
  · exact List.pairwise_iff_getElem.1 h i j hi hj h1 (hx.trans hy.symm)
  · exact List.pairwise_iff_getElem.1 h j i hj hi h1 (hy.trans hx.symm)
theorem any_step {q : List Pc} {k : Nat} {z : Pc} {g : Pc → Bool} (h : q[k]? = some z) : (q.take (k + 1)).any g = ((q.take k).any g || g z) := by
  rw [List.take_add_one, h]
  simp [List.any_append]
theorem wgt_le {x : Ax} (hc : x.check = 0) : wgt x.left ≤ 64 ∧ wgt x.right ≤ 64 := by
  have key : ∀ c : Con, (c.check = 0 ∨ c.empty = true) → wgt c ≤ 64 := by
    intro c h
    rcases h with h | h
    · rw [kind_pos h]; exact (Con.check_zero h).2
    · simp only [Con.empty, Bool.and_eq_true, beq_iff_eq] at h
      simp [wgt, h.1.1.1.1]
  have G := Ax.good_of hc
  have hs : x.shaped = true := by
    unfold Ax.check at hc
    split at hc
    · cases hc
    · rename_i h; simpa using h
  have k1 := G.k1
  have k9 := G.k9
  unfold Ax.shaped at hs
  rw [if_neg (by omega)] at hs
  simp only [Bool.and_eq_true, Bool.or_eq_true] at hs
  refine ⟨key _ ?_, key _ ?_⟩
  · by_cases h : x.kind ≤ 3
    · exact .inl (G.left h)
    · right
      have hk : x.kind = 4 ∨ x.kind = 5 ∨ x.kind = 6 ∨ x.kind = 7 ∨ x.kind = 8 ∨ x.kind = 9 := by omega
      have h0 := hs.1.1.1.1.1.1
      rcases hk with e | e | e | e | e | e <;> simpa [us, useL, e] using h0
  · by_cases h : x.kind ≤ 4 ∨ x.kind = 8
    · exact .inl (G.right h)
    · right
      have hk : x.kind = 5 ∨ x.kind = 6 ∨ x.kind = 7 ∨ x.kind = 9 := by omega
      have h0 := hs.1.1.1.1.1.2
      rcases hk with e | e | e | e <;> simpa [us, useL, e] using h0

theorem normalSmall_c (x : Ax) (hok : x.ok) : Tri Tryz.prog 5 #[Ax.val x] [] [Ax.memF x, tabs] (fun _ : Unit => .bool true) (fun _ => []) (fun _ => []) := by
  refine tri_of_body Tryz.func5 rfl rfl Tryz.ntmps5 rfl fun v0 => ?_
  rcases hP : piecesL [x] with ⟨p, er⟩
  rcases hG : x.goalP with ⟨q, fs, eg⟩
  refine run_seq ?_
  refine run_region ?_
  refine ops_box rfl rfl fun b1 => ?_
  refine ops_val (yld_assign rfl) rfl ?_
  refine ops_nil ?_
  refine fin_next rfl ?_
  refine run_seq ?_
  refine run_seq ?_
  refine run_region ?_
  refine ops_call (sane_c) rfl pf_nil (fun v _ h => by exact ⟨h.2.1, trivial⟩) rfl fun _ => ?_
  refine ops_val (yld_not rfl) rfl ?_
  refine ops_nil ?_
  refine fin_next rfl ?_
  refine run_cond_f rfl ?_
  refine run_skip ?_
  refine fin_next rfl ?_
  refine run_seq ?_
  refine run_seq ?_
  refine run_region ?_
  refine ops_val (yld_loadS 0 Tryz.isAgg41 Tryz.sizeOf41 rfl rfl rfl) rfl ?_
  refine ops_call (fewAxiom_c x hok) rfl pf_nil (fun v _ h => by exact ⟨h.1, trivial⟩) rfl fun r => ?_
  refine ops_val (yld_not rfl) rfl ?_
  refine ops_nil ?_
  refine fin_next rfl ?_
  cases r
  · skip
    refine run_cond_t rfl ?_
    refine run_seq ?_
    refine run_region ?_
    refine ops_val (yld_assign rfl) rfl ?_
    refine ops_nil ?_
    refine fin_next rfl ?_
    refine run_ret ?_
    exact ret1 Tryz.results5 () rfl pf_nil (fun _ _ _ => trivial)
  · skip
    refine run_cond_f rfl ?_
    refine run_skip ?_
    refine fin_next rfl ?_
    refine run_seq ?_
    refine run_region ?_
    refine ops_val (yld_loadS 0 Tryz.isAgg41 Tryz.sizeOf41 rfl rfl rfl) rfl ?_
    refine ops_slit Tryz.runUnderlying22 Tryz.sizeOf41 Tryz.zeroValue41 rfl rfl rfl rfl rfl rfl fun b2 => ?_
    refine ok_giveR (List.flatMap Ax.cells [x]) pf_here rfl ?_
    refine ops_call (pieces_e [x] (some ⟨b2, 0, none⟩) 1 ⟨by simp, by decide⟩ (fun y hy => by simp only [List.mem_cons, List.not_mem_nil, or_false] at hy; subst hy; exact hok) hP) rfl pf_nil (fun v _ h => by exact ⟨⟨h.1, fun y hy => by simp only [List.mem_cons, List.not_mem_nil, or_false] at hy; rcases hy with rfl; exact h.2.1⟩, h.2.2.1, trivial⟩) rfl fun ⟨⟨ap, cpp⟩, hap⟩ => ?_
    dsimp only
    refine ops_val (yld_move rfl) rfl ?_
    refine ops_val (yld_extract rfl rfl) rfl ?_
    refine ops_val (yld_extract rfl rfl) rfl ?_
    refine ops_val (yld_assign rfl) rfl ?_
    refine ops_val (yld_assign rfl) rfl ?_
    refine ops_nil ?_
    refine fin_next rfl ?_
    refine run_seq ?_
    refine run_region ?_
    refine ops_val (yld_loadS 0 Tryz.isAgg41 Tryz.sizeOf41 rfl rfl rfl) rfl ?_
    refine ops_call (goal_e x hok hG) rfl pf_nil (fun v _ h => by exact ⟨h.2.2.1, h.2.2.2.1, trivial⟩) rfl fun ⟨⟨aq, cpq, af, cpf⟩, haq⟩ => ?_
    dsimp only
    refine ops_val (yld_move rfl) rfl ?_
    refine ops_val (yld_extract rfl rfl) rfl ?_
    refine ops_val (yld_extract rfl rfl) rfl ?_
    refine ops_val (yld_extract rfl rfl) rfl ?_
    refine ops_val (yld_assign rfl) rfl ?_
    refine ops_val (yld_assign rfl) rfl ?_
    refine ops_val (yld_assign rfl) rfl ?_
    refine ops_nil ?_
    refine fin_next rfl ?_
    refine run_seq ?_
    refine run_seq ?_
    refine run_region ?_
    refine ops_val (yld_move rfl) rfl ?_
    refine ops_val (yld_loadS 0 Tryz.isAgg41 Tryz.sizeOf41 rfl rfl rfl) rfl ?_
    refine ops_call (checkAxiom_c x hok) rfl pf_nil (fun v _ h => by exact ⟨h.2.2.2.2.1, h.2.2.2.2.2.1, trivial⟩) rfl fun _ => ?_
    refine ops_valB (yld_neq rfl rfl) rfl fun r1 hr1 => ?_
    refine ops_nil ?_
    refine fin_next rfl ?_
    cases r1
    · skip
      replace hr1 := eq_of_bne hr1
      refine run_cond_f rfl ?_
      refine run_skip ?_
      refine fin_next rfl ?_
      refine run_seq ?_
      refine run_seq ?_
      refine run_region ?_
      refine ops_val (yld_move rfl) rfl ?_
      refine ops_valB (yld_neq rfl rfl) rfl fun r2 hr2 => ?_
      refine ops_nil ?_
      refine fin_next rfl ?_
      cases r2
      · skip
        replace hr2 := eq_of_bne hr2
        have hck : x.check = 0 := by omega
        have SL := small_law hok hck
        rw [piecesL_one, if_pos hck] at hP
        obtain ⟨rfl, rfl⟩ := Prod.mk.inj hP
        have hgl := SL.len
        have hfw := SL.few
        have hnd := SL.nodup
        have hgn := SL.gnodup
        have hgf := SL.gfrm
        rw [hG] at hgl hgn hgf
        dsimp only at hgl hgn hgf
        have hw1 : wgt x.left ≤ 64 ∧ wgt x.right ≤ 64 := wgt_le hck
        refine run_cond_f rfl ?_
        refine run_skip ?_
        refine fin_next rfl ?_
        refine run_seq ?_
        refine run_seq ?_
        refine run_draw' (by kernel_rfl) ?_
        refine any_take 0 rfl (by kernel_rfl) (by kernel_rfl) (by kernel_rfl) (yld_move rfl) rfl (fun _ a b => ⟨a, b⟩) ?_
        refine any_take 1 rfl (by kernel_rfl) (by kernel_rfl) (by kernel_rfl) (yld_lenS Tryz.runUnderlying25 rfl) rfl (fun _ a b => ⟨a, b⟩) ?_
        refine any_takeB 2 rfl (by kernel_rfl) (by kernel_rfl) (by kernel_rfl) (yld_lss rfl rfl) rfl (fun _ a b => ⟨a, b⟩) fun r3 hr3 => ?_
        refine any_take 3 rfl (by kernel_rfl) (by kernel_rfl) (by kernel_rfl) (yld_move rfl) rfl (fun _ a b => ⟨a, b⟩) ?_
        cases r3
        · skip
          replace hr3 := of_decide_eq_false hr3
          refine any_takeY 4 rfl (by kernel_rfl) (by kernel_rfl) (by kernel_rfl) rfl rfl (yld_move rfl) rfl (fun _ a b => ⟨a, b⟩) ?_
          refine any_takeY 5 rfl (by kernel_rfl) (by kernel_rfl) (by kernel_rfl) rfl rfl (yld_lenS Tryz.runUnderlying25 rfl) rfl (fun _ a b => ⟨a, b⟩) ?_
          refine any_takeY 6 rfl (by kernel_rfl) (by kernel_rfl) (by kernel_rfl) rfl rfl (yld_field Tryz.runUnderlying41 rfl rfl rfl Tryz.sizeOf38) rfl (fun _ a b => ⟨a, b⟩) ?_
          refine any_takeY 7 rfl (by kernel_rfl) (by kernel_rfl) (by kernel_rfl) rfl rfl (yld_loadS 0 Tryz.isAgg38 Tryz.sizeOf38 rfl rfl rfl) rfl (fun _ a b => ⟨a, b⟩) ?_
          refine any_takeY 9 rfl (by kernel_rfl) (by kernel_rfl) (by kernel_rfl) rfl rfl (yld_field Tryz.runUnderlying41 rfl rfl rfl Tryz.sizeOf38) rfl (fun _ a b => ⟨a, b⟩) ?_
          refine any_takeY 10 rfl (by kernel_rfl) (by kernel_rfl) (by kernel_rfl) rfl rfl (yld_loadS 0 Tryz.isAgg38 Tryz.sizeOf38 rfl rfl rfl) rfl (fun _ a b => ⟨a, b⟩) ?_
          refine any_one 8 rfl (by kernel_rfl) ?_
          refine ops_yes rfl rfl ?_
          refine ops_call (weight_c (Ax.left x) hok.left (by omega)) rfl pf_nil (fun v _ h => by exact ⟨h.2.2.2.2.1.1, trivial⟩) rfl fun _ => ?_
          refine ops_nil ?_
          refine fin_inv rfl ?_
          refine any_next (fun _ a b => ⟨a, b⟩) ?_
          refine any_one 11 rfl (by kernel_rfl) ?_
          refine ops_yes rfl rfl ?_
          refine ops_call (weight_c (Ax.right x) hok.right (by omega)) rfl pf_nil (fun v _ h => by exact ⟨h.2.2.2.2.1.2.1, trivial⟩) rfl fun _ => ?_
          refine ops_nil ?_
          refine fin_inv rfl ?_
          refine any_next (fun _ a b => ⟨a, b⟩) ?_
          refine any_takeY 12 rfl (by kernel_rfl) (by kernel_rfl) (by kernel_rfl) rfl rfl (yld_arith rfl rfl rfl (wrap64 (by omega) (by omega))) rfl (fun _ a b => ⟨a, b⟩) ?_
          refine any_takeY 13 rfl (by kernel_rfl) (by kernel_rfl) (by kernel_rfl) rfl rfl (yld_arith rfl rfl rfl (wrap64 (by omega) (by omega))) rfl (fun _ a b => ⟨a, b⟩) ?_
          refine any_takeY 14 rfl (by kernel_rfl) (by kernel_rfl) (by kernel_rfl) rfl rfl (yld_arith rfl rfl rfl (wrap64 (by omega) (by omega))) rfl (fun _ a b => ⟨a, b⟩) ?_
          refine any_takeYB 15 rfl (by kernel_rfl) (by kernel_rfl) (by kernel_rfl) rfl rfl (yld_gtr rfl rfl) rfl (fun _ a b => ⟨a, b⟩) fun r4 hr4 => ?_
          refine any_take 16 rfl (by kernel_rfl) (by kernel_rfl) (by kernel_rfl) (yld_pick_f rfl rfl) rfl (fun _ a b => ⟨a, b⟩) ?_
          refine any_done (by kernel_rfl) ?_
          refine fin_next rfl ?_
          cases r4
          · skip
            replace hr4 := of_decide_eq_false hr4
            refine run_cond_f rfl ?_
            refine run_skip ?_
            refine fin_next rfl ?_
            refine run_seq ?_
            refine run_region ?_
            refine ops_val (yld_move rfl) rfl ?_
            refine ops_val (yld_move rfl) rfl ?_
            refine ops_slit Tryz.runUnderlying48 Tryz.sizeOf25 Tryz.zeroValue25 rfl rfl rfl rfl rfl rfl fun b3 => ?_
            refine ok_giveR (List.flatMap PL.cells [(PL.mk (Ax.pieces 0 x) ap cpp), (PL.mk q aq cpq)]) pf_here rfl ?_
            refine ops_val (yld_assign rfl) rfl ?_
            refine ops_nil ?_
            refine fin_next rfl ?_
            refine run_seq ?_
            refine run_seq ?_
            refine run_region ?_
            refine ops_val (yld_assign rfl) rfl ?_
            refine ops_nil ?_
            refine fin_next rfl ?_
            refine run_block ?_
            have hall : ∀ y ∈ [(PL.mk (Ax.pieces 0 x) ap cpp), (PL.mk q aq cpq)], y.l.Nodup ∧ y.l.length ≤ 2000 := by
              intro y hy; simp only [List.mem_cons, List.not_mem_nil, or_false] at hy; rcases hy with rfl | rfl
              · exact ⟨hnd, by dsimp only; omega⟩
              · exact ⟨hgn, by dsimp only; omega⟩
            refine ok_fr [(1, .pointer (some ⟨b1, 0, none⟩)), (5, .slice aq (List.length q) cpq), (6, .slice af (List.length fs) cpf), (7, .int .i64 eg), (8, .slice (some ⟨b3, 0, none⟩) (List.length [(PL.mk (Ax.pieces 0 x) ap cpp), (PL.mk q aq cpq)]) 2), (9, .int .i64 ((0 : Nat) : Int))] ⟨rfl, rfl, rfl, rfl, rfl, rfl, trivial⟩ ?_
            refine run_loop (ι := {z : Nat // z ≤ 2}) (fun zz => [(1, .pointer (some ⟨b1, 0, none⟩)), (5, .slice aq (List.length q) cpq), (6, .slice af (List.length fs) cpf), (7, .int .i64 eg), (8, .slice (some ⟨b3, 0, none⟩) (List.length [(PL.mk (Ax.pieces 0 x) ap cpp), (PL.mk q aq cpq)]) 2), (9, .int .i64 (zz.1 : Int))]) (fun _ => _) (fun _ => _) (fun zz => 2 - zz.1) ⟨0, by simp⟩ ?_
            rintro ⟨n, hn⟩
            refine ok_fr [(1, .pointer (some ⟨b1, 0, none⟩)), (5, .slice aq (List.length q) cpq), (6, .slice af (List.length fs) cpf), (7, .int .i64 eg), (8, .slice (some ⟨b3, 0, none⟩) (List.length [(PL.mk (Ax.pieces 0 x) ap cpp), (PL.mk q aq cpq)]) 2), (9, .int .i64 (n : Int))] ⟨rfl, rfl, rfl, rfl, rfl, rfl, trivial⟩ ?_
            refine run_seq ?_
            refine run_seq ?_
            refine run_region ?_
            refine ops_val (yld_move rfl) rfl ?_
            refine ops_valB (yld_lss rfl rfl) rfl fun r5 hr5 => ?_
            refine ops_nil ?_
            refine fin_next rfl ?_
            cases r5
            · skip
              replace hr5 := of_decide_eq_false hr5
              refine run_cond_f rfl ?_
              refine run_exit rfl ?_
              refine fin_next rfl ?_
              refine run_seq ?_
              refine run_region ?_
              refine ops_val (yld_field Tryz.runUnderlying41 rfl rfl rfl Tryz.sizeOf3) rfl ?_
              refine ops_val (yld_load 0 Tryz.isAgg3 rfl rfl rfl) rfl ?_
              refine ops_valB (yld_eql rfl rfl) rfl fun r6 hr6 => ?_
              refine ops_val (yld_move rfl) rfl ?_
              cases r6
              · skip
                replace hr6 := ne_of_beq_false hr6
                refine ops_yes rfl rfl ?_
                refine ops_val (yld_field Tryz.runUnderlying41 rfl rfl rfl Tryz.sizeOf3) rfl ?_
                refine ops_yes rfl rfl ?_
                refine ops_val (yld_load 0 Tryz.isAgg3 rfl rfl rfl) rfl ?_
                refine ops_yes rfl rfl ?_
                refine ops_valB (yld_eql rfl rfl) rfl fun r7 hr7 => ?_
                refine ops_val (yld_pick_f rfl rfl) rfl ?_
                refine ops_val (yld_move rfl) rfl ?_
                cases r7
                · skip
                  replace hr7 := ne_of_beq_false hr7
                  refine ops_yes rfl rfl ?_
                  refine ops_val (yld_field Tryz.runUnderlying41 rfl rfl rfl Tryz.sizeOf3) rfl ?_
                  refine ops_yes rfl rfl ?_
                  refine ops_val (yld_load 0 Tryz.isAgg3 rfl rfl rfl) rfl ?_
                  refine ops_yes rfl rfl ?_
                  refine ops_valB (yld_eql rfl rfl) rfl fun r8 hr8 => ?_
                  refine ops_val (yld_pick_f rfl rfl) rfl ?_
                  refine ops_val (yld_assign rfl) rfl ?_
                  refine ops_nil ?_
                  refine fin_next rfl ?_
                  refine run_seq ?_
                  refine run_seq ?_
                  refine run_region ?_
                  refine ops_val (yld_move rfl) rfl ?_
                  refine ops_nil ?_
                  refine fin_next rfl ?_
                  cases r8
                  · skip
                    replace hr8 := ne_of_beq_false hr8
                    refine run_cond_f rfl ?_
                    refine run_skip ?_
                    refine fin_next rfl ?_
                    refine run_seq ?_
                    refine run_seq ?_
                    refine run_region ?_
                    refine ops_val (yld_move rfl) rfl ?_
                    refine ops_valB (yld_neq rfl rfl) rfl fun r9 hr9 => ?_
                    refine ops_val (yld_move rfl) rfl ?_
                    cases r9
                    · skip
                      replace hr9 := eq_of_bne hr9
                      refine ops_yes rfl rfl ?_
                      refine ops_val (yld_move rfl) rfl ?_
                      refine ops_yes rfl rfl ?_
                      refine ops_call (check_c q aq cpq (by omega) (by have := SL.sm; rw [hG] at this; exact this)) rfl pf_nil (fun v _ h => by exact ⟨h.2.1, h.2.2.2.2.2.2.1, trivial⟩) rfl fun _ => ?_
                      refine ops_yes rfl rfl ?_
                      refine ops_valB (yld_neq rfl rfl) rfl fun r10 hr10 => ?_
                      refine ops_val (yld_pick_f rfl rfl) rfl ?_
                      refine ops_val (yld_move rfl) rfl ?_
                      cases r10
                      · skip
                        replace hr10 := eq_of_bne hr10
                        refine ops_yes rfl rfl ?_
                        refine ops_val (yld_move rfl) rfl ?_
                        refine ops_yes rfl rfl ?_
                        refine ops_val (yld_lenS Tryz.runUnderlying43 rfl) rfl ?_
                        refine ops_yes rfl rfl ?_
                        refine ops_valB (yld_lss rfl rfl) rfl fun r11 hr11 => ?_
                        refine ops_val (yld_pick_f rfl rfl) rfl ?_
                        refine ops_val (yld_move rfl) rfl ?_
                        cases r11
                        · skip
                          replace hr11 := of_decide_eq_false hr11
                          refine ops_yes rfl rfl ?_
                          refine ops_val (yld_move rfl) rfl ?_
                          refine ops_yes rfl rfl ?_
                          refine ops_val (yld_lenS Tryz.runUnderlying43 rfl) rfl ?_
                          refine ops_yes rfl rfl ?_
                          refine ops_valB (yld_gtr rfl rfl) rfl fun r12 hr12 => ?_
                          refine ops_val (yld_pick_f rfl rfl) rfl ?_
                          refine ops_nil ?_
                          refine fin_next rfl ?_
                          cases r12
                          · skip
                            replace hr12 := of_decide_eq_false hr12
                            refine run_cond_f rfl ?_
                            refine run_skip ?_
                            refine fin_next rfl ?_
                            refine run_seq ?_
                            refine run_seq ?_
                            refine run_region ?_
                            refine ops_val (yld_assign rfl) rfl ?_
                            refine ops_nil ?_
                            refine fin_next rfl ?_
                            refine run_block ?_
                            have hrest := SL.rest (by omega)
                            rw [hG] at hrest
                            dsimp only at hrest
                            refine ok_fr [(5, .slice aq (List.length q) cpq), (6, .slice af (List.length fs) cpf), (13, .int .i64 ((0 : Nat) : Int))] ⟨rfl, rfl, rfl, trivial⟩ ?_
                            refine run_loop (ι := {z : Nat // z ≤ fs.length}) (fun zz => [(5, .slice aq (List.length q) cpq), (6, .slice af (List.length fs) cpf), (13, .int .i64 (zz.1 : Int))]) (fun _ => _) (fun _ => _) (fun zz => fs.length - zz.1) ⟨0, by simp⟩ ?_
                            rintro ⟨i, hi⟩
                            refine ok_fr [(5, .slice aq (List.length q) cpq), (6, .slice af (List.length fs) cpf), (13, .int .i64 (i : Int))] ⟨rfl, rfl, rfl, trivial⟩ ?_
                            refine run_seq ?_
                            refine run_seq ?_
                            refine run_region ?_
                            refine ops_val (yld_move rfl) rfl ?_
                            refine ops_val (yld_move rfl) rfl ?_
                            refine ops_val (yld_lenS Tryz.runUnderlying43 rfl) rfl ?_
                            refine ops_valB (yld_lss rfl rfl) rfl fun r13 hr13 => ?_
                            refine ops_nil ?_
                            refine fin_next rfl ?_
                            cases r13
                            · skip
                              replace hr13 := of_decide_eq_false hr13
                              refine run_cond_f rfl ?_
                              refine run_exit rfl ?_
                              refine fin_next rfl ?_
                              refine run_seq ?_
                              refine run_region ?_
                              refine ops_val (yld_assign rfl) rfl ?_
                              refine ops_nil ?_
                              refine fin_next rfl ?_
                              refine run_ret ?_
                              exact ret1 Tryz.results5 () rfl pf_nil (fun _ _ _ => trivial)
                            · skip
                              replace hr13 := of_decide_eq_true hr13
                              have hlg : i < List.length fs := by omega
                              obtain ⟨g, hg⟩ : ∃ e0, fs[i]? = some e0 := ⟨_, List.getElem?_eq_getElem hlg⟩
                              have hmg : g ∈ fs := List.mem_of_getElem? hg
                              refine run_cond_t rfl ?_
                              refine run_skip ?_
                              refine fin_next rfl ?_
                              refine run_seq ?_
                              refine run_block ?_
                              refine run_seq ?_
                              refine run_region ?_
                              refine ops_val (yld_assign rfl) rfl ?_
                              refine ops_nil ?_
                              refine fin_next rfl ?_
                              refine run_seq ?_
                              refine run_region ?_
                              refine ops_val (yld_assign rfl) rfl ?_
                              refine ops_nil ?_
                              refine fin_next rfl ?_
                              refine run_seq ?_
                              refine run_seq ?_
                              refine run_region ?_
                              refine ops_val (yld_assign rfl) rfl ?_
                              refine ops_nil ?_
                              refine fin_next rfl ?_
                              refine run_block ?_
                              refine ok_fr [(5, .slice aq (List.length q) cpq), (6, .slice af (List.length fs) cpf), (13, .int .i64 (i : Int)), (14, .bool false), (15, .bool false), (16, .int .i64 ((0 : Nat) : Int))] ⟨rfl, rfl, rfl, rfl, rfl, rfl, trivial⟩ ?_
                              refine run_loop (ι := {z : Nat × Bool × Bool // z.1 ≤ q.length ∧ z.2.1 = (q.take z.1).any (fun w => decide (w = (Pc.mk 1 (Fc.a g) [] [42] [] [] [] 0 0 (-1)))) ∧ z.2.2 = (q.take z.1).any (fun w => decide (w = (Pc.mk 1 (Fc.b g) [] [42] [] [] [] 0 0 (-1))))}) (fun z => [(5, .slice aq (List.length q) cpq), (6, .slice af (List.length fs) cpf), (13, .int .i64 (i : Int)), (14, .bool z.1.2.1), (15, .bool z.1.2.2), (16, .int .i64 (z.1.1 : Int))]) (fun _ => _) (fun _ => _) (fun z => q.length - z.1.1) ⟨(0, false, false), by simp, by simp, by simp⟩ ?_
                              rintro ⟨⟨k, u, w⟩, hk⟩
                              dsimp only at hk
                              obtain ⟨hk1, hku, hkw⟩ := hk
                              refine ok_fr [(5, .slice aq (List.length q) cpq), (6, .slice af (List.length fs) cpf), (13, .int .i64 (i : Int)), (14, .bool u), (15, .bool w), (16, .int .i64 (k : Int))] ⟨rfl, rfl, rfl, rfl, rfl, rfl, trivial⟩ ?_
                              refine run_seq ?_
                              refine run_seq ?_
                              refine run_region ?_
                              refine ops_val (yld_move rfl) rfl ?_
                              refine ops_val (yld_move rfl) rfl ?_
                              refine ops_val (yld_lenS Tryz.runUnderlying25 rfl) rfl ?_
                              refine ops_valB (yld_lss rfl rfl) rfl fun r14 hr14 => ?_
                              refine ops_nil ?_
                              refine fin_next rfl ?_
                              cases r14
                              · skip
                                replace hr14 := of_decide_eq_false hr14
                                refine run_cond_f rfl ?_
                                refine run_exit rfl ?_
                                refine fin_next rfl ?_
                                refine run_seq ?_
                                have hmm := hrest.2.2.2.2 g hmg
                                have hq : q.take k = q := List.take_of_length_le (by omega)
                                obtain rfl : u = true := by rw [hku, hq]; exact List.any_eq_true.2 ⟨_, hmm.1, by simp⟩
                                obtain rfl : w = true := by rw [hkw, hq]; exact List.any_eq_true.2 ⟨_, hmm.2, by simp⟩
                                refine run_region ?_
                                refine ops_val (yld_move rfl) rfl ?_
                                refine ops_val (yld_not rfl) rfl ?_
                                refine ops_val (yld_move rfl) rfl ?_
                                refine ops_yes rfl rfl ?_
                                refine ops_val (yld_move rfl) rfl ?_
                                refine ops_yes rfl rfl ?_
                                refine ops_val (yld_not rfl) rfl ?_
                                refine ops_val (yld_pick_f rfl rfl) rfl ?_
                                refine ops_nil ?_
                                refine fin_next rfl ?_
                                refine run_cond_f rfl ?_
                                refine run_skip ?_
                                refine fin_next rfl ?_
                                refine run_region ?_
                                refine ops_val (yld_move rfl) rfl ?_
                                refine ops_val (yld_arith rfl rfl rfl (wrap64 (by omega) (by omega))) rfl ?_
                                refine ops_val (yld_assign rfl) rfl ?_
                                refine ops_nil ?_
                                refine fin_inv rfl ?_
                                exact ok_again ⟨i + 1, hlg⟩ (by dsimp only; omega) ⟨rfl, rfl, rfl, trivial⟩ (.refl _) (fun _ _ h => h)
                              · skip
                                replace hr14 := of_decide_eq_true hr14
                                have hlqk : k < List.length q := by omega
                                obtain ⟨qk, hqk⟩ : ∃ e0, q[k]? = some e0 := ⟨_, List.getElem?_eq_getElem hlqk⟩
                                have hmqk : qk ∈ q := List.mem_of_getElem? hqk
                                refine run_cond_t rfl ?_
                                refine run_skip ?_
                                refine fin_next rfl ?_
                                refine run_seq ?_
                                refine run_block ?_
                                refine run_seq ?_
                                refine run_draw' (by kernel_rfl) ?_
                                refine any_take 0 rfl (by kernel_rfl) (by kernel_rfl) (by kernel_rfl) (yld_move rfl) rfl (fun _ a b => ⟨a, b⟩) ?_
                                refine any_take 1 rfl (by kernel_rfl) (by kernel_rfl) (by kernel_rfl) (yld_move rfl) rfl (fun _ a b => ⟨a, b⟩) ?_
                                cases u
                                · skip
                                  refine any_takeY 2 rfl (by kernel_rfl) (by kernel_rfl) (by kernel_rfl) rfl rfl (yld_move rfl) rfl (fun _ a b => ⟨a, b⟩) ?_
                                  refine any_takeY 3 rfl (by kernel_rfl) (by kernel_rfl) (by kernel_rfl) rfl rfl (yld_move rfl) rfl (fun _ a b => ⟨a, b⟩) ?_
                                  refine any_takeY 4 rfl (by kernel_rfl) (by kernel_rfl) (by kernel_rfl) rfl rfl (yld_indexR Tryz.runUnderlying25 Tryz.sizeOf31 rfl rfl (fun v _ h => row_adr (n := 10) Pc.cells_len (by decide) (by exact h.2.1) hqk) (by omega) (by first | omega | (simp; done))) rfl (fun _ a b => ⟨a, b⟩) ?_
                                  refine any_takeY 5 rfl (by kernel_rfl) (by kernel_rfl) (by kernel_rfl) rfl rfl (yld_loadRS (ad := aq) (us := Pc.cells qk) Tryz.isAgg31 Tryz.sizeOf31 rfl (fun v _ h => by exact h.2.1) (Pc.cells_len _) (row_cells Pc.cells_len hqk)) rfl (fun _ a b => ⟨a, b⟩) ?_
                                  refine any_takeY 6 rfl (by kernel_rfl) (by kernel_rfl) (by kernel_rfl) rfl rfl (yld_move rfl) rfl (fun _ a b => ⟨a, b⟩) ?_
                                  refine any_takeY 7 rfl (by kernel_rfl) (by kernel_rfl) (by kernel_rfl) rfl rfl (yld_move rfl) rfl (fun _ a b => ⟨a, b⟩) ?_
                                  refine any_takeY 8 rfl (by kernel_rfl) (by kernel_rfl) (by kernel_rfl) rfl rfl (yld_indexR Tryz.runUnderlying43 Tryz.sizeOf50 rfl rfl (fun v _ h => row_adr (n := 6) Fc.cells_len (by decide) (by exact h.2.2.1) hg) (by omega) (by first | omega | (simp; done))) rfl (fun _ a b => ⟨a, b⟩) ?_
                                  refine any_takeY 9 rfl (by kernel_rfl) (by kernel_rfl) (by kernel_rfl) rfl rfl (yld_fieldR Tryz.runUnderlying50 rfl rfl rfl Tryz.sizeOf9) rfl (fun _ a b => ⟨a, b⟩) ?_
                                  refine any_takeY 10 rfl (by kernel_rfl) (by kernel_rfl) (by kernel_rfl) rfl rfl (yld_loadR (ad := af) Tryz.isAgg9 rfl (fun v _ h => by exact h.2.2.1) (row_cells Fc.cells_len hg 1 _ rfl)) rfl (fun _ a b => ⟨a, b⟩) ?_
                                  refine any_takeY 11 rfl (by kernel_rfl) (by kernel_rfl) (by kernel_rfl) rfl rfl (yld_struct strt31 rfl rfl) rfl (fun _ a b => ⟨a, b⟩) ?_
                                  refine any_takeYB 12 rfl (by kernel_rfl) (by kernel_rfl) (by kernel_rfl) rfl rfl (yld_eqlPc (p := qk) (q := (Pc.mk 1 (Fc.a g) [] [42] [] [] [] 0 0 (-1))) rfl rfl) rfl (fun _ a b => ⟨a, b⟩) fun r15 hr15 => ?_
                                  refine any_take 13 rfl (by kernel_rfl) (by kernel_rfl) (by kernel_rfl) (yld_pick_f rfl rfl) rfl (fun _ a b => ⟨a, b⟩) ?_
                                  refine any_take 14 rfl (by kernel_rfl) (by kernel_rfl) (by kernel_rfl) (yld_assign rfl) rfl (fun _ a b => ⟨a, b⟩) ?_
                                  refine any_done (by kernel_rfl) ?_
                                  refine fin_next rfl ?_
                                  refine run_draw' (by kernel_rfl) ?_
                                  refine any_take 0 rfl (by kernel_rfl) (by kernel_rfl) (by kernel_rfl) (yld_move rfl) rfl (fun _ a b => ⟨a, b⟩) ?_
                                  refine any_take 1 rfl (by kernel_rfl) (by kernel_rfl) (by kernel_rfl) (yld_move rfl) rfl (fun _ a b => ⟨a, b⟩) ?_
                                  cases w
                                  · skip
                                    refine any_takeY 2 rfl (by kernel_rfl) (by kernel_rfl) (by kernel_rfl) rfl rfl (yld_move rfl) rfl (fun _ a b => ⟨a, b⟩) ?_
                                    refine any_takeY 3 rfl (by kernel_rfl) (by kernel_rfl) (by kernel_rfl) rfl rfl (yld_move rfl) rfl (fun _ a b => ⟨a, b⟩) ?_
                                    refine any_takeY 4 rfl (by kernel_rfl) (by kernel_rfl) (by kernel_rfl) rfl rfl (yld_indexR Tryz.runUnderlying25 Tryz.sizeOf31 rfl rfl (fun v _ h => row_adr (n := 10) Pc.cells_len (by decide) (by exact h.2.1) hqk) (by omega) (by first | omega | (simp; done))) rfl (fun _ a b => ⟨a, b⟩) ?_
                                    refine any_takeY 5 rfl (by kernel_rfl) (by kernel_rfl) (by kernel_rfl) rfl rfl (yld_loadRS (ad := aq) (us := Pc.cells qk) Tryz.isAgg31 Tryz.sizeOf31 rfl (fun v _ h => by exact h.2.1) (Pc.cells_len _) (row_cells Pc.cells_len hqk)) rfl (fun _ a b => ⟨a, b⟩) ?_
                                    refine any_takeY 6 rfl (by kernel_rfl) (by kernel_rfl) (by kernel_rfl) rfl rfl (yld_move rfl) rfl (fun _ a b => ⟨a, b⟩) ?_
                                    refine any_takeY 7 rfl (by kernel_rfl) (by kernel_rfl) (by kernel_rfl) rfl rfl (yld_move rfl) rfl (fun _ a b => ⟨a, b⟩) ?_
                                    refine any_takeY 8 rfl (by kernel_rfl) (by kernel_rfl) (by kernel_rfl) rfl rfl (yld_indexR Tryz.runUnderlying43 Tryz.sizeOf50 rfl rfl (fun v _ h => row_adr (n := 6) Fc.cells_len (by decide) (by exact h.2.2.1) hg) (by omega) (by first | omega | (simp; done))) rfl (fun _ a b => ⟨a, b⟩) ?_
                                    refine any_takeY 9 rfl (by kernel_rfl) (by kernel_rfl) (by kernel_rfl) rfl rfl (yld_fieldR Tryz.runUnderlying50 rfl rfl rfl Tryz.sizeOf9) rfl (fun _ a b => ⟨a, b⟩) ?_
                                    refine any_takeY 10 rfl (by kernel_rfl) (by kernel_rfl) (by kernel_rfl) rfl rfl (yld_loadR (ad := af) Tryz.isAgg9 rfl (fun v _ h => by exact h.2.2.1) (row_cells Fc.cells_len hg 2 _ rfl)) rfl (fun _ a b => ⟨a, b⟩) ?_
                                    refine any_takeY 11 rfl (by kernel_rfl) (by kernel_rfl) (by kernel_rfl) rfl rfl (yld_struct strt31 rfl rfl) rfl (fun _ a b => ⟨a, b⟩) ?_
                                    refine any_takeYB 12 rfl (by kernel_rfl) (by kernel_rfl) (by kernel_rfl) rfl rfl (yld_eqlPc (p := qk) (q := (Pc.mk 1 (Fc.b g) [] [42] [] [] [] 0 0 (-1))) rfl rfl) rfl (fun _ a b => ⟨a, b⟩) fun r16 hr16 => ?_
                                    refine any_take 13 rfl (by kernel_rfl) (by kernel_rfl) (by kernel_rfl) (yld_pick_f rfl rfl) rfl (fun _ a b => ⟨a, b⟩) ?_
                                    refine any_take 14 rfl (by kernel_rfl) (by kernel_rfl) (by kernel_rfl) (yld_assign rfl) rfl (fun _ a b => ⟨a, b⟩) ?_
                                    refine any_done (by kernel_rfl) ?_
                                    refine fin_next rfl ?_
                                    refine run_region ?_
                                    refine ops_val (yld_move rfl) rfl ?_
                                    refine ops_val (yld_arith rfl rfl rfl (wrap64 (by omega) (by omega))) rfl ?_
                                    refine ops_val (yld_assign rfl) rfl ?_
                                    refine ops_nil ?_
                                    refine fin_inv rfl ?_
                                    exact ok_again ⟨(k + 1, r15, r16), hlqk, (by dsimp only; rw [any_step hqk, ← hku]; exact hr15.symm), (by dsimp only; rw [any_step hqk, ← hkw]; exact hr16.symm)⟩ (by dsimp only; omega) ⟨rfl, rfl, rfl, rfl, rfl, rfl, trivial⟩ pf_nil (fun _ _ h => h)
                                  · skip
                                    refine any_no 2 rfl (by kernel_rfl) (by kernel_rfl) (by kernel_rfl) rfl rfl rfl rfl (fun _ a b => ⟨a, b⟩) ?_
                                    refine any_no 3 rfl (by kernel_rfl) (by kernel_rfl) (by kernel_rfl) rfl rfl rfl rfl (fun _ a b => ⟨a, b⟩) ?_
                                    refine any_no 4 rfl (by kernel_rfl) (by kernel_rfl) (by kernel_rfl) rfl rfl rfl rfl (fun _ a b => ⟨a, b⟩) ?_
                                    refine any_no 5 rfl (by kernel_rfl) (by kernel_rfl) (by kernel_rfl) rfl rfl rfl rfl (fun _ a b => ⟨a, b⟩) ?_
                                    refine any_no 6 rfl (by kernel_rfl) (by kernel_rfl) (by kernel_rfl) rfl rfl rfl rfl (fun _ a b => ⟨a, b⟩) ?_
                                    refine any_no 7 rfl (by kernel_rfl) (by kernel_rfl) (by kernel_rfl) rfl rfl rfl rfl (fun _ a b => ⟨a, b⟩) ?_
                                    refine any_no 8 rfl (by kernel_rfl) (by kernel_rfl) (by kernel_rfl) rfl rfl rfl rfl (fun _ a b => ⟨a, b⟩) ?_
                                    refine any_no 9 rfl (by kernel_rfl) (by kernel_rfl) (by kernel_rfl) rfl rfl rfl rfl (fun _ a b => ⟨a, b⟩) ?_
                                    refine any_no 10 rfl (by kernel_rfl) (by kernel_rfl) (by kernel_rfl) rfl rfl rfl rfl (fun _ a b => ⟨a, b⟩) ?_
                                    refine any_no 11 rfl (by kernel_rfl) (by kernel_rfl) (by kernel_rfl) rfl rfl rfl rfl (fun _ a b => ⟨a, b⟩) ?_
                                    refine any_no 12 rfl (by kernel_rfl) (by kernel_rfl) (by kernel_rfl) rfl rfl rfl rfl (fun _ a b => ⟨a, b⟩) ?_
                                    refine any_take 13 rfl (by kernel_rfl) (by kernel_rfl) (by kernel_rfl) (yld_pick_t rfl rfl) rfl (fun _ a b => ⟨a, b⟩) ?_
                                    refine any_take 14 rfl (by kernel_rfl) (by kernel_rfl) (by kernel_rfl) (yld_assign rfl) rfl (fun _ a b => ⟨a, b⟩) ?_
                                    refine any_done (by kernel_rfl) ?_
                                    refine fin_next rfl ?_
                                    refine run_region ?_
                                    refine ops_val (yld_move rfl) rfl ?_
                                    refine ops_val (yld_arith rfl rfl rfl (wrap64 (by omega) (by omega))) rfl ?_
                                    refine ops_val (yld_assign rfl) rfl ?_
                                    refine ops_nil ?_
                                    refine fin_inv rfl ?_
                                    exact ok_again ⟨(k + 1, r15, true), hlqk, (by dsimp only; rw [any_step hqk, ← hku]; exact hr15.symm), (by dsimp only; rw [any_step hqk, ← hkw]; rfl)⟩ (by dsimp only; omega) ⟨rfl, rfl, rfl, rfl, rfl, rfl, trivial⟩ pf_nil (fun _ _ h => h)
                                · skip
                                  refine any_no 2 rfl (by kernel_rfl) (by kernel_rfl) (by kernel_rfl) rfl rfl rfl rfl (fun _ a b => ⟨a, b⟩) ?_
                                  refine any_no 3 rfl (by kernel_rfl) (by kernel_rfl) (by kernel_rfl) rfl rfl rfl rfl (fun _ a b => ⟨a, b⟩) ?_
                                  refine any_no 4 rfl (by kernel_rfl) (by kernel_rfl) (by kernel_rfl) rfl rfl rfl rfl (fun _ a b => ⟨a, b⟩) ?_
                                  refine any_no 5 rfl (by kernel_rfl) (by kernel_rfl) (by kernel_rfl) rfl rfl rfl rfl (fun _ a b => ⟨a, b⟩) ?_
                                  refine any_no 6 rfl (by kernel_rfl) (by kernel_rfl) (by kernel_rfl) rfl rfl rfl rfl (fun _ a b => ⟨a, b⟩) ?_
                                  refine any_no 7 rfl (by kernel_rfl) (by kernel_rfl) (by kernel_rfl) rfl rfl rfl rfl (fun _ a b => ⟨a, b⟩) ?_
                                  refine any_no 8 rfl (by kernel_rfl) (by kernel_rfl) (by kernel_rfl) rfl rfl rfl rfl (fun _ a b => ⟨a, b⟩) ?_
                                  refine any_no 9 rfl (by kernel_rfl) (by kernel_rfl) (by kernel_rfl) rfl rfl rfl rfl (fun _ a b => ⟨a, b⟩) ?_
                                  refine any_no 10 rfl (by kernel_rfl) (by kernel_rfl) (by kernel_rfl) rfl rfl rfl rfl (fun _ a b => ⟨a, b⟩) ?_
                                  refine any_no 11 rfl (by kernel_rfl) (by kernel_rfl) (by kernel_rfl) rfl rfl rfl rfl (fun _ a b => ⟨a, b⟩) ?_
                                  refine any_no 12 rfl (by kernel_rfl) (by kernel_rfl) (by kernel_rfl) rfl rfl rfl rfl (fun _ a b => ⟨a, b⟩) ?_
                                  refine any_take 13 rfl (by kernel_rfl) (by kernel_rfl) (by kernel_rfl) (yld_pick_t rfl rfl) rfl (fun _ a b => ⟨a, b⟩) ?_
                                  refine any_take 14 rfl (by kernel_rfl) (by kernel_rfl) (by kernel_rfl) (yld_assign rfl) rfl (fun _ a b => ⟨a, b⟩) ?_
                                  refine any_done (by kernel_rfl) ?_
                                  refine fin_next rfl ?_
                                  refine run_draw' (by kernel_rfl) ?_
                                  refine any_take 0 rfl (by kernel_rfl) (by kernel_rfl) (by kernel_rfl) (yld_move rfl) rfl (fun _ a b => ⟨a, b⟩) ?_
                                  refine any_take 1 rfl (by kernel_rfl) (by kernel_rfl) (by kernel_rfl) (yld_move rfl) rfl (fun _ a b => ⟨a, b⟩) ?_
                                  cases w
                                  · skip
                                    refine any_takeY 2 rfl (by kernel_rfl) (by kernel_rfl) (by kernel_rfl) rfl rfl (yld_move rfl) rfl (fun _ a b => ⟨a, b⟩) ?_
                                    refine any_takeY 3 rfl (by kernel_rfl) (by kernel_rfl) (by kernel_rfl) rfl rfl (yld_move rfl) rfl (fun _ a b => ⟨a, b⟩) ?_
                                    refine any_takeY 4 rfl (by kernel_rfl) (by kernel_rfl) (by kernel_rfl) rfl rfl (yld_indexR Tryz.runUnderlying25 Tryz.sizeOf31 rfl rfl (fun v _ h => row_adr (n := 10) Pc.cells_len (by decide) (by exact h.2.1) hqk) (by omega) (by first | omega | (simp; done))) rfl (fun _ a b => ⟨a, b⟩) ?_
                                    refine any_takeY 5 rfl (by kernel_rfl) (by kernel_rfl) (by kernel_rfl) rfl rfl (yld_loadRS (ad := aq) (us := Pc.cells qk) Tryz.isAgg31 Tryz.sizeOf31 rfl (fun v _ h => by exact h.2.1) (Pc.cells_len _) (row_cells Pc.cells_len hqk)) rfl (fun _ a b => ⟨a, b⟩) ?_
                                    refine any_takeY 6 rfl (by kernel_rfl) (by kernel_rfl) (by kernel_rfl) rfl rfl (yld_move rfl) rfl (fun _ a b => ⟨a, b⟩) ?_
                                    refine any_takeY 7 rfl (by kernel_rfl) (by kernel_rfl) (by kernel_rfl) rfl rfl (yld_move rfl) rfl (fun _ a b => ⟨a, b⟩) ?_
                                    refine any_takeY 8 rfl (by kernel_rfl) (by kernel_rfl) (by kernel_rfl) rfl rfl (yld_indexR Tryz.runUnderlying43 Tryz.sizeOf50 rfl rfl (fun v _ h => row_adr (n := 6) Fc.cells_len (by decide) (by exact h.2.2.1) hg) (by omega) (by first | omega | (simp; done))) rfl (fun _ a b => ⟨a, b⟩) ?_
                                    refine any_takeY 9 rfl (by kernel_rfl) (by kernel_rfl) (by kernel_rfl) rfl rfl (yld_fieldR Tryz.runUnderlying50 rfl rfl rfl Tryz.sizeOf9) rfl (fun _ a b => ⟨a, b⟩) ?_
                                    refine any_takeY 10 rfl (by kernel_rfl) (by kernel_rfl) (by kernel_rfl) rfl rfl (yld_loadR (ad := af) Tryz.isAgg9 rfl (fun v _ h => by exact h.2.2.1) (row_cells Fc.cells_len hg 2 _ rfl)) rfl (fun _ a b => ⟨a, b⟩) ?_
                                    refine any_takeY 11 rfl (by kernel_rfl) (by kernel_rfl) (by kernel_rfl) rfl rfl (yld_struct strt31 rfl rfl) rfl (fun _ a b => ⟨a, b⟩) ?_
                                    refine any_takeYB 12 rfl (by kernel_rfl) (by kernel_rfl) (by kernel_rfl) rfl rfl (yld_eqlPc (p := qk) (q := (Pc.mk 1 (Fc.b g) [] [42] [] [] [] 0 0 (-1))) rfl rfl) rfl (fun _ a b => ⟨a, b⟩) fun r17 hr17 => ?_
                                    refine any_take 13 rfl (by kernel_rfl) (by kernel_rfl) (by kernel_rfl) (yld_pick_f rfl rfl) rfl (fun _ a b => ⟨a, b⟩) ?_
                                    refine any_take 14 rfl (by kernel_rfl) (by kernel_rfl) (by kernel_rfl) (yld_assign rfl) rfl (fun _ a b => ⟨a, b⟩) ?_
                                    refine any_done (by kernel_rfl) ?_
                                    refine fin_next rfl ?_
                                    refine run_region ?_
                                    refine ops_val (yld_move rfl) rfl ?_
                                    refine ops_val (yld_arith rfl rfl rfl (wrap64 (by omega) (by omega))) rfl ?_
                                    refine ops_val (yld_assign rfl) rfl ?_
                                    refine ops_nil ?_
                                    refine fin_inv rfl ?_
                                    exact ok_again ⟨(k + 1, true, r17), hlqk, (by dsimp only; rw [any_step hqk, ← hku]; rfl), (by dsimp only; rw [any_step hqk, ← hkw]; exact hr17.symm)⟩ (by dsimp only; omega) ⟨rfl, rfl, rfl, rfl, rfl, rfl, trivial⟩ pf_nil (fun _ _ h => h)
                                  · skip
                                    refine any_no 2 rfl (by kernel_rfl) (by kernel_rfl) (by kernel_rfl) rfl rfl rfl rfl (fun _ a b => ⟨a, b⟩) ?_
                                    refine any_no 3 rfl (by kernel_rfl) (by kernel_rfl) (by kernel_rfl) rfl rfl rfl rfl (fun _ a b => ⟨a, b⟩) ?_
                                    refine any_no 4 rfl (by kernel_rfl) (by kernel_rfl) (by kernel_rfl) rfl rfl rfl rfl (fun _ a b => ⟨a, b⟩) ?_
                                    refine any_no 5 rfl (by kernel_rfl) (by kernel_rfl) (by kernel_rfl) rfl rfl rfl rfl (fun _ a b => ⟨a, b⟩) ?_
                                    refine any_no 6 rfl (by kernel_rfl) (by kernel_rfl) (by kernel_rfl) rfl rfl rfl rfl (fun _ a b => ⟨a, b⟩) ?_
                                    refine any_no 7 rfl (by kernel_rfl) (by kernel_rfl) (by kernel_rfl) rfl rfl rfl rfl (fun _ a b => ⟨a, b⟩) ?_
                                    refine any_no 8 rfl (by kernel_rfl) (by kernel_rfl) (by kernel_rfl) rfl rfl rfl rfl (fun _ a b => ⟨a, b⟩) ?_
                                    refine any_no 9 rfl (by kernel_rfl) (by kernel_rfl) (by kernel_rfl) rfl rfl rfl rfl (fun _ a b => ⟨a, b⟩) ?_
                                    refine any_no 10 rfl (by kernel_rfl) (by kernel_rfl) (by kernel_rfl) rfl rfl rfl rfl (fun _ a b => ⟨a, b⟩) ?_
                                    refine any_no 11 rfl (by kernel_rfl) (by kernel_rfl) (by kernel_rfl) rfl rfl rfl rfl (fun _ a b => ⟨a, b⟩) ?_
                                    refine any_no 12 rfl (by kernel_rfl) (by kernel_rfl) (by kernel_rfl) rfl rfl rfl rfl (fun _ a b => ⟨a, b⟩) ?_
                                    refine any_take 13 rfl (by kernel_rfl) (by kernel_rfl) (by kernel_rfl) (yld_pick_t rfl rfl) rfl (fun _ a b => ⟨a, b⟩) ?_
                                    refine any_take 14 rfl (by kernel_rfl) (by kernel_rfl) (by kernel_rfl) (yld_assign rfl) rfl (fun _ a b => ⟨a, b⟩) ?_
                                    refine any_done (by kernel_rfl) ?_
                                    refine fin_next rfl ?_
                                    refine run_region ?_
                                    refine ops_val (yld_move rfl) rfl ?_
                                    refine ops_val (yld_arith rfl rfl rfl (wrap64 (by omega) (by omega))) rfl ?_
                                    refine ops_val (yld_assign rfl) rfl ?_
                                    refine ops_nil ?_
                                    refine fin_inv rfl ?_
                                    exact ok_again ⟨(k + 1, true, true), hlqk, (by dsimp only; rw [any_step hqk, ← hku]; rfl), (by dsimp only; rw [any_step hqk, ← hkw]; rfl)⟩ (by dsimp only; omega) ⟨rfl, rfl, rfl, rfl, rfl, rfl, trivial⟩ pf_nil (fun _ _ h => h)
                          · skip
                            replace hr12 := of_decide_eq_true hr12
                            exfalso; have := (SL.rest (by omega)).2.2.2.1; rw [hG] at this; dsimp only at this; omega
                        · skip
                          replace hr11 := of_decide_eq_true hr11
                          exfalso; have := (SL.rest (by omega)).2.2.1; rw [hG] at this; dsimp only at this; omega
                      · skip
                        replace hr10 := ne_of_bne hr10
                        exfalso; have := (SL.rest (by omega)).2.1; rw [hG] at this; exact hr10 this
                    · skip
                      replace hr9 := ne_of_bne hr9
                      exfalso; have := (SL.rest (by omega)).1; rw [hG] at this; exact hr9 this
                  · skip
                    replace hr8 := eq_of_beq hr8
                    refine run_cond_t rfl ?_
                    refine run_seq ?_
                    refine run_region ?_
                    refine ops_val (yld_move rfl) rfl ?_
                    refine ops_valB (yld_eql rfl rfl) rfl fun r18 hr18 => ?_
                    refine ops_val (yld_move rfl) rfl ?_
                    cases r18
                    · skip
                      replace hr18 := ne_of_beq_false hr18
                      refine ops_no rfl rfl rfl rfl ?_
                      refine ops_no rfl rfl rfl rfl ?_
                      refine ops_no rfl rfl rfl rfl ?_
                      refine ops_val (yld_pick_f rfl rfl) rfl ?_
                      refine ops_val (yld_move rfl) rfl ?_
                      refine ops_no rfl rfl rfl rfl ?_
                      refine ops_no rfl rfl rfl rfl ?_
                      refine ops_no rfl rfl rfl rfl ?_
                      refine ops_val (yld_pick_f rfl rfl) rfl ?_
                      refine ops_val (yld_assign rfl) rfl ?_
                      refine ops_nil ?_
                      refine fin_next rfl ?_
                      refine run_ret ?_
                      exact ret1 Tryz.results5 () (get_bool rfl (by have hro := SL.role (by omega); rw [hro] at hG; simp only [Prod.mk.injEq] at hG; obtain ⟨rfl, rfl, rfl⟩ := hG; subst_vars; simp_all)) pf_nil (fun _ _ _ => trivial)
                    · skip
                      replace hr18 := eq_of_beq hr18
                      refine ops_yes rfl rfl ?_
                      refine ops_val (yld_move rfl) rfl ?_
                      refine ops_yes rfl rfl ?_
                      refine ops_val (yld_lenS Tryz.runUnderlying25 rfl) rfl ?_
                      refine ops_yes rfl rfl ?_
                      refine ops_valB (yld_eql rfl rfl) rfl fun r19 hr19 => ?_
                      refine ops_val (yld_pick_t rfl rfl) rfl ?_
                      refine ops_val (yld_move rfl) rfl ?_
                      cases r19
                      · skip
                        replace hr19 := ne_of_beq_false hr19
                        refine ops_no rfl rfl rfl rfl ?_
                        refine ops_no rfl rfl rfl rfl ?_
                        refine ops_no rfl rfl rfl rfl ?_
                        refine ops_val (yld_pick_f rfl rfl) rfl ?_
                        refine ops_val (yld_assign rfl) rfl ?_
                        refine ops_nil ?_
                        refine fin_next rfl ?_
                        refine run_ret ?_
                        exact ret1 Tryz.results5 () (get_bool rfl (by have hro := SL.role (by omega); rw [hro] at hG; simp only [Prod.mk.injEq] at hG; obtain ⟨rfl, rfl, rfl⟩ := hG; subst_vars; simp_all)) pf_nil (fun _ _ _ => trivial)
                      · skip
                        replace hr19 := eq_of_beq hr19
                        refine ops_yes rfl rfl ?_
                        refine ops_val (yld_move rfl) rfl ?_
                        refine ops_yes rfl rfl ?_
                        refine ops_val (yld_lenS Tryz.runUnderlying43 rfl) rfl ?_
                        refine ops_yes rfl rfl ?_
                        refine ops_valB (yld_eql rfl rfl) rfl fun r20 hr20 => ?_
                        refine ops_val (yld_pick_t rfl rfl) rfl ?_
                        refine ops_val (yld_assign rfl) rfl ?_
                        refine ops_nil ?_
                        refine fin_next rfl ?_
                        refine run_ret ?_
                        exact ret1 Tryz.results5 () (get_bool rfl (by have hro := SL.role (by omega); rw [hro] at hG; simp only [Prod.mk.injEq] at hG; obtain ⟨rfl, rfl, rfl⟩ := hG; subst_vars; simp_all)) pf_nil (fun _ _ _ => trivial)
                · skip
                  replace hr7 := eq_of_beq hr7
                  refine ops_no rfl rfl rfl rfl ?_
                  refine ops_no rfl rfl rfl rfl ?_
                  refine ops_no rfl rfl rfl rfl ?_
                  refine ops_val (yld_pick_t rfl rfl) rfl ?_
                  refine ops_val (yld_assign rfl) rfl ?_
                  refine ops_nil ?_
                  refine fin_next rfl ?_
                  refine run_seq ?_
                  refine run_seq ?_
                  refine run_region ?_
                  refine ops_val (yld_move rfl) rfl ?_
                  refine ops_nil ?_
                  refine fin_next rfl ?_
                  refine run_cond_t rfl ?_
                  refine run_seq ?_
                  refine run_region ?_
                  refine ops_val (yld_move rfl) rfl ?_
                  refine ops_valB (yld_eql rfl rfl) rfl fun r21 hr21 => ?_
                  refine ops_val (yld_move rfl) rfl ?_
                  cases r21
                  · skip
                    replace hr21 := ne_of_beq_false hr21
                    refine ops_no rfl rfl rfl rfl ?_
                    refine ops_no rfl rfl rfl rfl ?_
                    refine ops_no rfl rfl rfl rfl ?_
                    refine ops_val (yld_pick_f rfl rfl) rfl ?_
                    refine ops_val (yld_move rfl) rfl ?_
                    refine ops_no rfl rfl rfl rfl ?_
                    refine ops_no rfl rfl rfl rfl ?_
                    refine ops_no rfl rfl rfl rfl ?_
                    refine ops_val (yld_pick_f rfl rfl) rfl ?_
                    refine ops_val (yld_assign rfl) rfl ?_
                    refine ops_nil ?_
                    refine fin_next rfl ?_
                    refine run_ret ?_
                    exact ret1 Tryz.results5 () (get_bool rfl (by have hro := SL.role (by omega); rw [hro] at hG; simp only [Prod.mk.injEq] at hG; obtain ⟨rfl, rfl, rfl⟩ := hG; subst_vars; simp_all)) pf_nil (fun _ _ _ => trivial)
                  · skip
                    replace hr21 := eq_of_beq hr21
                    refine ops_yes rfl rfl ?_
                    refine ops_val (yld_move rfl) rfl ?_
                    refine ops_yes rfl rfl ?_
                    refine ops_val (yld_lenS Tryz.runUnderlying25 rfl) rfl ?_
                    refine ops_yes rfl rfl ?_
                    refine ops_valB (yld_eql rfl rfl) rfl fun r22 hr22 => ?_
                    refine ops_val (yld_pick_t rfl rfl) rfl ?_
                    refine ops_val (yld_move rfl) rfl ?_
                    cases r22
                    · skip
                      replace hr22 := ne_of_beq_false hr22
                      refine ops_no rfl rfl rfl rfl ?_
                      refine ops_no rfl rfl rfl rfl ?_
                      refine ops_no rfl rfl rfl rfl ?_
                      refine ops_val (yld_pick_f rfl rfl) rfl ?_
                      refine ops_val (yld_assign rfl) rfl ?_
                      refine ops_nil ?_
                      refine fin_next rfl ?_
                      refine run_ret ?_
                      exact ret1 Tryz.results5 () (get_bool rfl (by have hro := SL.role (by omega); rw [hro] at hG; simp only [Prod.mk.injEq] at hG; obtain ⟨rfl, rfl, rfl⟩ := hG; subst_vars; simp_all)) pf_nil (fun _ _ _ => trivial)
                    · skip
                      replace hr22 := eq_of_beq hr22
                      refine ops_yes rfl rfl ?_
                      refine ops_val (yld_move rfl) rfl ?_
                      refine ops_yes rfl rfl ?_
                      refine ops_val (yld_lenS Tryz.runUnderlying43 rfl) rfl ?_
                      refine ops_yes rfl rfl ?_
                      refine ops_valB (yld_eql rfl rfl) rfl fun r23 hr23 => ?_
                      refine ops_val (yld_pick_t rfl rfl) rfl ?_
                      refine ops_val (yld_assign rfl) rfl ?_
                      refine ops_nil ?_
                      refine fin_next rfl ?_
                      refine run_ret ?_
                      exact ret1 Tryz.results5 () (get_bool rfl (by have hro := SL.role (by omega); rw [hro] at hG; simp only [Prod.mk.injEq] at hG; obtain ⟨rfl, rfl, rfl⟩ := hG; subst_vars; simp_all)) pf_nil (fun _ _ _ => trivial)
              · skip
                replace hr6 := eq_of_beq hr6
                refine ops_no rfl rfl rfl rfl ?_
                refine ops_no rfl rfl rfl rfl ?_
                refine ops_no rfl rfl rfl rfl ?_
                refine ops_val (yld_pick_t rfl rfl) rfl ?_
                refine ops_val (yld_move rfl) rfl ?_
                refine ops_no rfl rfl rfl rfl ?_
                refine ops_no rfl rfl rfl rfl ?_
                refine ops_no rfl rfl rfl rfl ?_
                refine ops_val (yld_pick_t rfl rfl) rfl ?_
                refine ops_val (yld_assign rfl) rfl ?_
                refine ops_nil ?_
                refine fin_next rfl ?_
                refine run_seq ?_
                refine run_seq ?_
                refine run_region ?_
                refine ops_val (yld_move rfl) rfl ?_
                refine ops_nil ?_
                refine fin_next rfl ?_
                refine run_cond_t rfl ?_
                refine run_seq ?_
                refine run_region ?_
                refine ops_val (yld_move rfl) rfl ?_
                refine ops_valB (yld_eql rfl rfl) rfl fun r24 hr24 => ?_
                refine ops_val (yld_move rfl) rfl ?_
                cases r24
                · skip
                  replace hr24 := ne_of_beq_false hr24
                  refine ops_no rfl rfl rfl rfl ?_
                  refine ops_no rfl rfl rfl rfl ?_
                  refine ops_no rfl rfl rfl rfl ?_
                  refine ops_val (yld_pick_f rfl rfl) rfl ?_
                  refine ops_val (yld_move rfl) rfl ?_
                  refine ops_no rfl rfl rfl rfl ?_
                  refine ops_no rfl rfl rfl rfl ?_
                  refine ops_no rfl rfl rfl rfl ?_
                  refine ops_val (yld_pick_f rfl rfl) rfl ?_
                  refine ops_val (yld_assign rfl) rfl ?_
                  refine ops_nil ?_
                  refine fin_next rfl ?_
                  refine run_ret ?_
                  exact ret1 Tryz.results5 () (get_bool rfl (by have hro := SL.role (by omega); rw [hro] at hG; simp only [Prod.mk.injEq] at hG; obtain ⟨rfl, rfl, rfl⟩ := hG; subst_vars; simp_all)) pf_nil (fun _ _ _ => trivial)
                · skip
                  replace hr24 := eq_of_beq hr24
                  refine ops_yes rfl rfl ?_
                  refine ops_val (yld_move rfl) rfl ?_
                  refine ops_yes rfl rfl ?_
                  refine ops_val (yld_lenS Tryz.runUnderlying25 rfl) rfl ?_
                  refine ops_yes rfl rfl ?_
                  refine ops_valB (yld_eql rfl rfl) rfl fun r25 hr25 => ?_
                  refine ops_val (yld_pick_t rfl rfl) rfl ?_
                  refine ops_val (yld_move rfl) rfl ?_
                  cases r25
                  · skip
                    replace hr25 := ne_of_beq_false hr25
                    refine ops_no rfl rfl rfl rfl ?_
                    refine ops_no rfl rfl rfl rfl ?_
                    refine ops_no rfl rfl rfl rfl ?_
                    refine ops_val (yld_pick_f rfl rfl) rfl ?_
                    refine ops_val (yld_assign rfl) rfl ?_
                    refine ops_nil ?_
                    refine fin_next rfl ?_
                    refine run_ret ?_
                    exact ret1 Tryz.results5 () (get_bool rfl (by have hro := SL.role (by omega); rw [hro] at hG; simp only [Prod.mk.injEq] at hG; obtain ⟨rfl, rfl, rfl⟩ := hG; subst_vars; simp_all)) pf_nil (fun _ _ _ => trivial)
                  · skip
                    replace hr25 := eq_of_beq hr25
                    refine ops_yes rfl rfl ?_
                    refine ops_val (yld_move rfl) rfl ?_
                    refine ops_yes rfl rfl ?_
                    refine ops_val (yld_lenS Tryz.runUnderlying43 rfl) rfl ?_
                    refine ops_yes rfl rfl ?_
                    refine ops_valB (yld_eql rfl rfl) rfl fun r26 hr26 => ?_
                    refine ops_val (yld_pick_t rfl rfl) rfl ?_
                    refine ops_val (yld_assign rfl) rfl ?_
                    refine ops_nil ?_
                    refine fin_next rfl ?_
                    refine run_ret ?_
                    exact ret1 Tryz.results5 () (get_bool rfl (by have hro := SL.role (by omega); rw [hro] at hG; simp only [Prod.mk.injEq] at hG; obtain ⟨rfl, rfl, rfl⟩ := hG; subst_vars; simp_all)) pf_nil (fun _ _ _ => trivial)
            · skip
              replace hr5 := of_decide_eq_true hr5
              have hly : n < List.length [(PL.mk (Ax.pieces 0 x) ap cpp), (PL.mk q aq cpq)] := by simp; omega
              obtain ⟨y, hy⟩ : ∃ e0, [(PL.mk (Ax.pieces 0 x) ap cpp), (PL.mk q aq cpq)][n]? = some e0 := ⟨_, List.getElem?_eq_getElem hly⟩
              have hmy : y ∈ [(PL.mk (Ax.pieces 0 x) ap cpp), (PL.mk q aq cpq)] := List.mem_of_getElem? hy
              have hax := hall y hmy
              refine run_cond_t rfl ?_
              refine run_skip ?_
              refine fin_next rfl ?_
              refine run_seq ?_
              refine run_block ?_
              refine run_seq ?_
              refine run_region ?_
              refine ops_val (yld_assign rfl) rfl ?_
              refine ops_nil ?_
              refine fin_next rfl ?_
              refine run_block ?_
              refine ok_fr [(1, .pointer (some ⟨b1, 0, none⟩)), (5, .slice aq (List.length q) cpq), (6, .slice af (List.length fs) cpf), (7, .int .i64 eg), (8, .slice (some ⟨b3, 0, none⟩) (List.length [(PL.mk (Ax.pieces 0 x) ap cpp), (PL.mk q aq cpq)]) 2), (9, .int .i64 (n : Int)), (10, .int .i64 ((0 : Nat) : Int))] ⟨rfl, rfl, rfl, rfl, rfl, rfl, rfl, trivial⟩ ?_
              refine run_loop (ι := {z : Nat // z ≤ y.l.length}) (fun zz => [(1, .pointer (some ⟨b1, 0, none⟩)), (5, .slice aq (List.length q) cpq), (6, .slice af (List.length fs) cpf), (7, .int .i64 eg), (8, .slice (some ⟨b3, 0, none⟩) (List.length [(PL.mk (Ax.pieces 0 x) ap cpp), (PL.mk q aq cpq)]) 2), (9, .int .i64 (n : Int)), (10, .int .i64 (zz.1 : Int))]) (fun _ => _) (fun _ => _) (fun zz => y.l.length - zz.1) ⟨0, by simp⟩ ?_
              rintro ⟨i, hi⟩
              refine ok_fr [(1, .pointer (some ⟨b1, 0, none⟩)), (5, .slice aq (List.length q) cpq), (6, .slice af (List.length fs) cpf), (7, .int .i64 eg), (8, .slice (some ⟨b3, 0, none⟩) (List.length [(PL.mk (Ax.pieces 0 x) ap cpp), (PL.mk q aq cpq)]) 2), (9, .int .i64 (n : Int)), (10, .int .i64 (i : Int))] ⟨rfl, rfl, rfl, rfl, rfl, rfl, rfl, trivial⟩ ?_
              refine run_seq ?_
              refine run_seq ?_
              refine run_region ?_
              refine ops_val (yld_move rfl) rfl ?_
              refine ops_val (yld_move rfl) rfl ?_
              refine ops_val (yld_move rfl) rfl ?_
              refine ops_val (yld_indexR Tryz.runUnderlying48 Tryz.sizeOf25 rfl rfl (fun v _ h => row_adr (n := 1) PL.cells_len (by decide) (by exact h.1) hy) (by omega) (by first | omega | (simp; done))) rfl ?_
              refine ops_val (yld_loadR (ad := (some ⟨b3, 0, none⟩)) Tryz.isAgg25 rfl (fun v _ h => by exact h.1) (row_cells PL.cells_len hy 0 _ rfl)) rfl ?_
              refine ops_val (yld_lenS Tryz.runUnderlying25 rfl) rfl ?_
              refine ops_valB (yld_lss rfl rfl) rfl fun r27 hr27 => ?_
              refine ops_nil ?_
              refine fin_next rfl ?_
              cases r27
              · skip
                replace hr27 := of_decide_eq_false hr27
                refine run_cond_f rfl ?_
                refine run_exit rfl ?_
                refine fin_next rfl ?_
                refine run_region ?_
                refine ops_val (yld_move rfl) rfl ?_
                refine ops_val (yld_arith rfl rfl rfl (wrap64 (by omega) (by omega))) rfl ?_
                refine ops_val (yld_assign rfl) rfl ?_
                refine ops_nil ?_
                refine fin_inv rfl ?_
                exact ok_again ⟨n + 1, by omega⟩ (by dsimp only; omega) ⟨rfl, rfl, rfl, rfl, rfl, rfl, trivial⟩ (.refl _) (fun _ _ h => h)
              · skip
                replace hr27 := of_decide_eq_true hr27
                have hlpi : i < List.length (PL.l y) := by omega
                obtain ⟨pi, hpi⟩ : ∃ e0, (PL.l y)[i]? = some e0 := ⟨_, List.getElem?_eq_getElem hlpi⟩
                have hmpi : pi ∈ (PL.l y) := List.mem_of_getElem? hpi
                refine run_cond_t rfl ?_
                refine run_skip ?_
                refine fin_next rfl ?_
                refine run_seq ?_
                refine run_block ?_
                refine run_seq ?_
                refine run_seq ?_
                refine run_region ?_
                refine ops_val (yld_move rfl) rfl ?_
                refine ops_valB (yld_eql rfl rfl) rfl fun r28 hr28 => ?_
                refine ops_val (yld_move rfl) rfl ?_
                cases r28
                · skip
                  replace hr28 := ne_of_beq_false hr28
                  refine ops_no rfl rfl rfl rfl ?_
                  refine ops_no rfl rfl rfl rfl ?_
                  refine ops_no rfl rfl rfl rfl ?_
                  refine ops_no rfl rfl rfl rfl ?_
                  refine ops_no rfl rfl rfl rfl ?_
                  refine ops_no rfl rfl rfl rfl ?_
                  refine ops_no rfl rfl rfl rfl ?_
                  refine ops_no rfl rfl rfl rfl ?_
                  refine ops_no rfl rfl rfl rfl ?_
                  refine ops_val (yld_pick_f rfl rfl) rfl ?_
                  refine ops_nil ?_
                  refine fin_next rfl ?_
                  refine run_cond_f rfl ?_
                  refine run_skip ?_
                  refine fin_next rfl ?_
                  refine run_seq ?_
                  refine run_region ?_
                  refine ops_val (yld_assign rfl) rfl ?_
                  refine ops_nil ?_
                  refine fin_next rfl ?_
                  refine run_block ?_
                  refine ok_fr [(1, .pointer (some ⟨b1, 0, none⟩)), (5, .slice aq (List.length q) cpq), (6, .slice af (List.length fs) cpf), (7, .int .i64 eg), (8, .slice (some ⟨b3, 0, none⟩) (List.length [(PL.mk (Ax.pieces 0 x) ap cpp), (PL.mk q aq cpq)]) 2), (9, .int .i64 (n : Int)), (10, .int .i64 (i : Int)), (11, .int .i64 ((0 : Nat) : Int))] ⟨rfl, rfl, rfl, rfl, rfl, rfl, rfl, rfl, trivial⟩ ?_
                  refine run_loop (ι := {z : Nat // z ≤ i}) (fun zz => [(1, .pointer (some ⟨b1, 0, none⟩)), (5, .slice aq (List.length q) cpq), (6, .slice af (List.length fs) cpf), (7, .int .i64 eg), (8, .slice (some ⟨b3, 0, none⟩) (List.length [(PL.mk (Ax.pieces 0 x) ap cpp), (PL.mk q aq cpq)]) 2), (9, .int .i64 (n : Int)), (10, .int .i64 (i : Int)), (11, .int .i64 (zz.1 : Int))]) (fun _ => _) (fun _ => _) (fun zz => i - zz.1) ⟨0, by simp⟩ ?_
                  rintro ⟨k, hk⟩
                  refine ok_fr [(1, .pointer (some ⟨b1, 0, none⟩)), (5, .slice aq (List.length q) cpq), (6, .slice af (List.length fs) cpf), (7, .int .i64 eg), (8, .slice (some ⟨b3, 0, none⟩) (List.length [(PL.mk (Ax.pieces 0 x) ap cpp), (PL.mk q aq cpq)]) 2), (9, .int .i64 (n : Int)), (10, .int .i64 (i : Int)), (11, .int .i64 (k : Int))] ⟨rfl, rfl, rfl, rfl, rfl, rfl, rfl, rfl, trivial⟩ ?_
                  refine run_seq ?_
                  refine run_seq ?_
                  refine run_region ?_
                  refine ops_val (yld_move rfl) rfl ?_
                  refine ops_val (yld_move rfl) rfl ?_
                  refine ops_valB (yld_lss rfl rfl) rfl fun r29 hr29 => ?_
                  refine ops_nil ?_
                  refine fin_next rfl ?_
                  cases r29
                  · skip
                    replace hr29 := of_decide_eq_false hr29
                    refine run_cond_f rfl ?_
                    refine run_exit rfl ?_
                    refine fin_next rfl ?_
                    refine run_region ?_
                    refine ops_val (yld_move rfl) rfl ?_
                    refine ops_val (yld_arith rfl rfl rfl (wrap64 (by omega) (by omega))) rfl ?_
                    refine ops_val (yld_assign rfl) rfl ?_
                    refine ops_nil ?_
                    refine fin_inv rfl ?_
                    exact ok_again ⟨i + 1, hlpi⟩ (by dsimp only; omega) ⟨rfl, rfl, rfl, rfl, rfl, rfl, rfl, trivial⟩ (.refl _) (fun _ _ h => h)
                  · skip
                    replace hr29 := of_decide_eq_true hr29
                    have hlpk : k < List.length (PL.l y) := by omega
                    obtain ⟨pk, hpk⟩ : ∃ e0, (PL.l y)[k]? = some e0 := ⟨_, List.getElem?_eq_getElem hlpk⟩
                    have hmpk : pk ∈ (PL.l y) := List.mem_of_getElem? hpk
                    refine run_cond_t rfl ?_
                    refine run_skip ?_
                    refine fin_next rfl ?_
                    refine run_seq ?_
                    refine run_block ?_
                    refine run_seq ?_
                    refine run_draw' (by kernel_rfl) ?_
                    refine any_take 0 rfl (by kernel_rfl) (by kernel_rfl) (by kernel_rfl) (yld_move rfl) rfl (fun _ a b => ⟨a, b⟩) ?_
                    refine any_take 1 rfl (by kernel_rfl) (by kernel_rfl) (by kernel_rfl) (yld_move rfl) rfl (fun _ a b => ⟨a, b⟩) ?_
                    refine any_take 2 rfl (by kernel_rfl) (by kernel_rfl) (by kernel_rfl) (yld_indexR Tryz.runUnderlying48 Tryz.sizeOf25 rfl rfl (fun v _ h => row_adr (n := 1) PL.cells_len (by decide) (by exact h.1) hy) (by omega) (by first | omega | (simp; done))) rfl (fun _ a b => ⟨a, b⟩) ?_
                    refine any_take 3 rfl (by kernel_rfl) (by kernel_rfl) (by kernel_rfl) (yld_loadR (ad := (some ⟨b3, 0, none⟩)) Tryz.isAgg25 rfl (fun v _ h => by exact h.1) (row_cells PL.cells_len hy 0 _ rfl)) rfl (fun _ a b => ⟨a, b⟩) ?_
                    refine any_take 4 rfl (by kernel_rfl) (by kernel_rfl) (by kernel_rfl) (yld_move rfl) rfl (fun _ a b => ⟨a, b⟩) ?_
                    refine any_take 5 rfl (by kernel_rfl) (by kernel_rfl) (by kernel_rfl) (yld_indexR Tryz.runUnderlying25 Tryz.sizeOf31 rfl rfl (fun v _ h => row_adr (n := 10) Pc.cells_len (by decide) (by exact (pl_two hmy h.2.2.2.1 h.2.1)) hpi) (by omega) (by first | omega | (simp; done))) rfl (fun _ a b => ⟨a, b⟩) ?_
                    refine any_take 6 rfl (by kernel_rfl) (by kernel_rfl) (by kernel_rfl) (yld_loadRS (ad := (PL.ad y)) (us := Pc.cells pi) Tryz.isAgg31 Tryz.sizeOf31 rfl (fun v _ h => by exact (pl_two hmy h.2.2.2.1 h.2.1)) (Pc.cells_len _) (row_cells Pc.cells_len hpi)) rfl (fun _ a b => ⟨a, b⟩) ?_
                    refine any_take 7 rfl (by kernel_rfl) (by kernel_rfl) (by kernel_rfl) (yld_move rfl) rfl (fun _ a b => ⟨a, b⟩) ?_
                    refine any_take 8 rfl (by kernel_rfl) (by kernel_rfl) (by kernel_rfl) (yld_move rfl) rfl (fun _ a b => ⟨a, b⟩) ?_
                    refine any_take 9 rfl (by kernel_rfl) (by kernel_rfl) (by kernel_rfl) (yld_indexR Tryz.runUnderlying48 Tryz.sizeOf25 rfl rfl (fun v _ h => row_adr (n := 1) PL.cells_len (by decide) (by exact h.1) hy) (by omega) (by first | omega | (simp; done))) rfl (fun _ a b => ⟨a, b⟩) ?_
                    refine any_take 10 rfl (by kernel_rfl) (by kernel_rfl) (by kernel_rfl) (yld_loadR (ad := (some ⟨b3, 0, none⟩)) Tryz.isAgg25 rfl (fun v _ h => by exact h.1) (row_cells PL.cells_len hy 0 _ rfl)) rfl (fun _ a b => ⟨a, b⟩) ?_
                    refine any_take 11 rfl (by kernel_rfl) (by kernel_rfl) (by kernel_rfl) (yld_move rfl) rfl (fun _ a b => ⟨a, b⟩) ?_
                    refine any_take 12 rfl (by kernel_rfl) (by kernel_rfl) (by kernel_rfl) (yld_indexR Tryz.runUnderlying25 Tryz.sizeOf31 rfl rfl (fun v _ h => row_adr (n := 10) Pc.cells_len (by decide) (by exact (pl_two hmy h.2.2.2.1 h.2.1)) hpk) (by omega) (by first | omega | (simp; done))) rfl (fun _ a b => ⟨a, b⟩) ?_
                    refine any_take 13 rfl (by kernel_rfl) (by kernel_rfl) (by kernel_rfl) (yld_loadRS (ad := (PL.ad y)) (us := Pc.cells pk) Tryz.isAgg31 Tryz.sizeOf31 rfl (fun v _ h => by exact (pl_two hmy h.2.2.2.1 h.2.1)) (Pc.cells_len _) (row_cells Pc.cells_len hpk)) rfl (fun _ a b => ⟨a, b⟩) ?_
                    refine any_takeB 14 rfl (by kernel_rfl) (by kernel_rfl) (by kernel_rfl) (yld_eqlPc (p := pi) (q := pk) rfl rfl) rfl (fun _ a b => ⟨a, b⟩) fun r30 hr30 => ?_
                    refine any_done (by kernel_rfl) ?_
                    refine fin_next rfl ?_
                    cases r30
                    · skip
                      replace hr30 := of_decide_eq_false hr30
                      refine run_cond_f rfl ?_
                      refine run_skip ?_
                      refine fin_next rfl ?_
                      refine run_region ?_
                      refine ops_val (yld_move rfl) rfl ?_
                      refine ops_val (yld_arith rfl rfl rfl (wrap64 (by omega) (by omega))) rfl ?_
                      refine ops_val (yld_assign rfl) rfl ?_
                      refine ops_nil ?_
                      refine fin_inv rfl ?_
                      exact ok_again ⟨k + 1, by omega⟩ (by dsimp only; omega) ⟨rfl, rfl, rfl, rfl, rfl, rfl, rfl, rfl, trivial⟩ (.refl _) (fun _ _ h => h)
                    · skip
                      replace hr30 := of_decide_eq_true hr30
                      exfalso; exact nodup_ne hax.1 hpi hpk (by omega) hr30
                · skip
                  replace hr28 := eq_of_beq hr28
                  refine ops_yes rfl rfl ?_
                  refine ops_val (yld_move rfl) rfl ?_
                  refine ops_yes rfl rfl ?_
                  refine ops_val (yld_move rfl) rfl ?_
                  refine ops_yes rfl rfl ?_
                  refine ops_val (yld_indexR Tryz.runUnderlying48 Tryz.sizeOf25 rfl rfl (fun v _ h => row_adr (n := 1) PL.cells_len (by decide) (by exact h.1) hy) (by omega) (by first | omega | (simp; done))) rfl ?_
                  refine ops_yes rfl rfl ?_
                  refine ops_val (yld_loadR (ad := (some ⟨b3, 0, none⟩)) Tryz.isAgg25 rfl (fun v _ h => by exact h.1) (row_cells PL.cells_len hy 0 _ rfl)) rfl ?_
                  refine ops_yes rfl rfl ?_
                  refine ops_val (yld_move rfl) rfl ?_
                  refine ops_yes rfl rfl ?_
                  refine ops_val (yld_indexR Tryz.runUnderlying25 Tryz.sizeOf31 rfl rfl (fun v _ h => row_adr (n := 10) Pc.cells_len (by decide) (by exact (pl_two hmy h.2.2.2.1 h.2.1)) hpi) (by omega) (by first | omega | (simp; done))) rfl ?_
                  refine ops_yes rfl rfl ?_
                  refine ops_val (yld_fieldR Tryz.runUnderlying31 rfl rfl rfl Tryz.sizeOf3) rfl ?_
                  refine ops_yes rfl rfl ?_
                  refine ops_val (yld_loadR (ad := (PL.ad y)) Tryz.isAgg3 rfl (fun v _ h => by exact (pl_two hmy h.2.2.2.1 h.2.1)) (row_cells Pc.cells_len hpi 9 _ rfl)) rfl ?_
                  refine ops_yes rfl rfl ?_
                  refine ops_valB (yld_neq rfl rfl) rfl fun r31 hr31 => ?_
                  refine ops_val (yld_pick_t rfl rfl) rfl ?_
                  refine ops_nil ?_
                  refine fin_next rfl ?_
                  cases r31
                  · skip
                    replace hr31 := eq_of_bne hr31
                    refine run_cond_f rfl ?_
                    refine run_skip ?_
                    refine fin_next rfl ?_
                    refine run_seq ?_
                    refine run_region ?_
                    refine ops_val (yld_assign rfl) rfl ?_
                    refine ops_nil ?_
                    refine fin_next rfl ?_
                    refine run_block ?_
                    refine ok_fr [(1, .pointer (some ⟨b1, 0, none⟩)), (5, .slice aq (List.length q) cpq), (6, .slice af (List.length fs) cpf), (7, .int .i64 eg), (8, .slice (some ⟨b3, 0, none⟩) (List.length [(PL.mk (Ax.pieces 0 x) ap cpp), (PL.mk q aq cpq)]) 2), (9, .int .i64 (n : Int)), (10, .int .i64 (i : Int)), (11, .int .i64 ((0 : Nat) : Int))] ⟨rfl, rfl, rfl, rfl, rfl, rfl, rfl, rfl, trivial⟩ ?_
                    refine run_loop (ι := {z : Nat // z ≤ i}) (fun zz => [(1, .pointer (some ⟨b1, 0, none⟩)), (5, .slice aq (List.length q) cpq), (6, .slice af (List.length fs) cpf), (7, .int .i64 eg), (8, .slice (some ⟨b3, 0, none⟩) (List.length [(PL.mk (Ax.pieces 0 x) ap cpp), (PL.mk q aq cpq)]) 2), (9, .int .i64 (n : Int)), (10, .int .i64 (i : Int)), (11, .int .i64 (zz.1 : Int))]) (fun _ => _) (fun _ => _) (fun zz => i - zz.1) ⟨0, by simp⟩ ?_
                    rintro ⟨k, hk⟩
                    refine ok_fr [(1, .pointer (some ⟨b1, 0, none⟩)), (5, .slice aq (List.length q) cpq), (6, .slice af (List.length fs) cpf), (7, .int .i64 eg), (8, .slice (some ⟨b3, 0, none⟩) (List.length [(PL.mk (Ax.pieces 0 x) ap cpp), (PL.mk q aq cpq)]) 2), (9, .int .i64 (n : Int)), (10, .int .i64 (i : Int)), (11, .int .i64 (k : Int))] ⟨rfl, rfl, rfl, rfl, rfl, rfl, rfl, rfl, trivial⟩ ?_
                    refine run_seq ?_
                    refine run_seq ?_
                    refine run_region ?_
                    refine ops_val (yld_move rfl) rfl ?_
                    refine ops_val (yld_move rfl) rfl ?_
                    refine ops_valB (yld_lss rfl rfl) rfl fun r32 hr32 => ?_
                    refine ops_nil ?_
                    refine fin_next rfl ?_
                    cases r32
                    · skip
                      replace hr32 := of_decide_eq_false hr32
                      refine run_cond_f rfl ?_
                      refine run_exit rfl ?_
                      refine fin_next rfl ?_
                      refine run_region ?_
                      refine ops_val (yld_move rfl) rfl ?_
                      refine ops_val (yld_arith rfl rfl rfl (wrap64 (by omega) (by omega))) rfl ?_
                      refine ops_val (yld_assign rfl) rfl ?_
                      refine ops_nil ?_
                      refine fin_inv rfl ?_
                      exact ok_again ⟨i + 1, hlpi⟩ (by dsimp only; omega) ⟨rfl, rfl, rfl, rfl, rfl, rfl, rfl, trivial⟩ (.refl _) (fun _ _ h => h)
                    · skip
                      replace hr32 := of_decide_eq_true hr32
                      have hlpk : k < List.length (PL.l y) := by omega
                      obtain ⟨pk, hpk⟩ : ∃ e0, (PL.l y)[k]? = some e0 := ⟨_, List.getElem?_eq_getElem hlpk⟩
                      have hmpk : pk ∈ (PL.l y) := List.mem_of_getElem? hpk
                      refine run_cond_t rfl ?_
                      refine run_skip ?_
                      refine fin_next rfl ?_
                      refine run_seq ?_
                      refine run_block ?_
                      refine run_seq ?_
                      refine run_draw' (by kernel_rfl) ?_
                      refine any_take 0 rfl (by kernel_rfl) (by kernel_rfl) (by kernel_rfl) (yld_move rfl) rfl (fun _ a b => ⟨a, b⟩) ?_
                      refine any_take 1 rfl (by kernel_rfl) (by kernel_rfl) (by kernel_rfl) (yld_move rfl) rfl (fun _ a b => ⟨a, b⟩) ?_
                      refine any_take 2 rfl (by kernel_rfl) (by kernel_rfl) (by kernel_rfl) (yld_indexR Tryz.runUnderlying48 Tryz.sizeOf25 rfl rfl (fun v _ h => row_adr (n := 1) PL.cells_len (by decide) (by exact h.1) hy) (by omega) (by first | omega | (simp; done))) rfl (fun _ a b => ⟨a, b⟩) ?_
                      refine any_take 3 rfl (by kernel_rfl) (by kernel_rfl) (by kernel_rfl) (yld_loadR (ad := (some ⟨b3, 0, none⟩)) Tryz.isAgg25 rfl (fun v _ h => by exact h.1) (row_cells PL.cells_len hy 0 _ rfl)) rfl (fun _ a b => ⟨a, b⟩) ?_
                      refine any_take 4 rfl (by kernel_rfl) (by kernel_rfl) (by kernel_rfl) (yld_move rfl) rfl (fun _ a b => ⟨a, b⟩) ?_
                      refine any_take 5 rfl (by kernel_rfl) (by kernel_rfl) (by kernel_rfl) (yld_indexR Tryz.runUnderlying25 Tryz.sizeOf31 rfl rfl (fun v _ h => row_adr (n := 10) Pc.cells_len (by decide) (by exact (pl_two hmy h.2.2.2.1 h.2.1)) hpi) (by omega) (by first | omega | (simp; done))) rfl (fun _ a b => ⟨a, b⟩) ?_
                      refine any_take 6 rfl (by kernel_rfl) (by kernel_rfl) (by kernel_rfl) (yld_loadRS (ad := (PL.ad y)) (us := Pc.cells pi) Tryz.isAgg31 Tryz.sizeOf31 rfl (fun v _ h => by exact (pl_two hmy h.2.2.2.1 h.2.1)) (Pc.cells_len _) (row_cells Pc.cells_len hpi)) rfl (fun _ a b => ⟨a, b⟩) ?_
                      refine any_take 7 rfl (by kernel_rfl) (by kernel_rfl) (by kernel_rfl) (yld_move rfl) rfl (fun _ a b => ⟨a, b⟩) ?_
                      refine any_take 8 rfl (by kernel_rfl) (by kernel_rfl) (by kernel_rfl) (yld_move rfl) rfl (fun _ a b => ⟨a, b⟩) ?_
                      refine any_take 9 rfl (by kernel_rfl) (by kernel_rfl) (by kernel_rfl) (yld_indexR Tryz.runUnderlying48 Tryz.sizeOf25 rfl rfl (fun v _ h => row_adr (n := 1) PL.cells_len (by decide) (by exact h.1) hy) (by omega) (by first | omega | (simp; done))) rfl (fun _ a b => ⟨a, b⟩) ?_
                      refine any_take 10 rfl (by kernel_rfl) (by kernel_rfl) (by kernel_rfl) (yld_loadR (ad := (some ⟨b3, 0, none⟩)) Tryz.isAgg25 rfl (fun v _ h => by exact h.1) (row_cells PL.cells_len hy 0 _ rfl)) rfl (fun _ a b => ⟨a, b⟩) ?_
                      refine any_take 11 rfl (by kernel_rfl) (by kernel_rfl) (by kernel_rfl) (yld_move rfl) rfl (fun _ a b => ⟨a, b⟩) ?_
                      refine any_take 12 rfl (by kernel_rfl) (by kernel_rfl) (by kernel_rfl) (yld_indexR Tryz.runUnderlying25 Tryz.sizeOf31 rfl rfl (fun v _ h => row_adr (n := 10) Pc.cells_len (by decide) (by exact (pl_two hmy h.2.2.2.1 h.2.1)) hpk) (by omega) (by first | omega | (simp; done))) rfl (fun _ a b => ⟨a, b⟩) ?_
                      refine any_take 13 rfl (by kernel_rfl) (by kernel_rfl) (by kernel_rfl) (yld_loadRS (ad := (PL.ad y)) (us := Pc.cells pk) Tryz.isAgg31 Tryz.sizeOf31 rfl (fun v _ h => by exact (pl_two hmy h.2.2.2.1 h.2.1)) (Pc.cells_len _) (row_cells Pc.cells_len hpk)) rfl (fun _ a b => ⟨a, b⟩) ?_
                      refine any_takeB 14 rfl (by kernel_rfl) (by kernel_rfl) (by kernel_rfl) (yld_eqlPc (p := pi) (q := pk) rfl rfl) rfl (fun _ a b => ⟨a, b⟩) fun r33 hr33 => ?_
                      refine any_done (by kernel_rfl) ?_
                      refine fin_next rfl ?_
                      cases r33
                      · skip
                        replace hr33 := of_decide_eq_false hr33
                        refine run_cond_f rfl ?_
                        refine run_skip ?_
                        refine fin_next rfl ?_
                        refine run_region ?_
                        refine ops_val (yld_move rfl) rfl ?_
                        refine ops_val (yld_arith rfl rfl rfl (wrap64 (by omega) (by omega))) rfl ?_
                        refine ops_val (yld_assign rfl) rfl ?_
                        refine ops_nil ?_
                        refine fin_inv rfl ?_
                        exact ok_again ⟨k + 1, by omega⟩ (by dsimp only; omega) ⟨rfl, rfl, rfl, rfl, rfl, rfl, rfl, rfl, trivial⟩ (.refl _) (fun _ _ h => h)
                      · skip
                        replace hr33 := of_decide_eq_true hr33
                        exfalso; exact nodup_ne hax.1 hpi hpk (by omega) hr33
                  · skip
                    replace hr31 := ne_of_bne hr31
                    exfalso; have hn1 : n = 1 := (by omega); subst hn1; have hyy := Option.some.inj hy; subst hyy; exact hr31 (hgf pi hmpi)
          · skip
            replace hr4 := of_decide_eq_true hr4
            exfalso; omega
        · skip
          replace hr3 := of_decide_eq_true hr3
          exfalso; omega
      · skip
        replace hr2 := ne_of_bne hr2
        refine run_cond_t rfl ?_
        refine run_seq ?_
        refine run_region ?_
        refine ops_val (yld_move rfl) rfl ?_
        refine ops_val (yld_move rfl) rfl ?_
        refine ops_valB (yld_eql rfl rfl) rfl fun r34 hr34 => ?_
        refine ops_val (yld_move rfl) rfl ?_
        cases r34
        · skip
          replace hr34 := ne_of_beq_false hr34
          refine ops_no rfl rfl rfl rfl ?_
          refine ops_no rfl rfl rfl rfl ?_
          refine ops_no rfl rfl rfl rfl ?_
          refine ops_val (yld_pick_f rfl rfl) rfl ?_
          refine ops_val (yld_move rfl) rfl ?_
          refine ops_no rfl rfl rfl rfl ?_
          refine ops_no rfl rfl rfl rfl ?_
          refine ops_no rfl rfl rfl rfl ?_
          refine ops_val (yld_pick_f rfl rfl) rfl ?_
          refine ops_val (yld_move rfl) rfl ?_
          refine ops_no rfl rfl rfl rfl ?_
          refine ops_no rfl rfl rfl rfl ?_
          refine ops_no rfl rfl rfl rfl ?_
          refine ops_val (yld_pick_f rfl rfl) rfl ?_
          refine ops_val (yld_assign rfl) rfl ?_
          refine ops_nil ?_
          refine fin_next rfl ?_
          refine run_ret ?_
          exact ret1 Tryz.results5 () (get_bool rfl (by rw [goal_bad (by omega)] at hG; rw [piecesL_one, if_neg (by omega)] at hP; simp only [Prod.mk.injEq] at hG hP; obtain ⟨rfl, rfl, rfl⟩ := hG; obtain ⟨rfl, rfl⟩ := hP; subst_vars; simp_all)) pf_nil (fun _ _ _ => trivial)
        · skip
          replace hr34 := eq_of_beq hr34
          refine ops_yes rfl rfl ?_
          refine ops_val (yld_move rfl) rfl ?_
          refine ops_yes rfl rfl ?_
          refine ops_val (yld_lenS Tryz.runUnderlying25 rfl) rfl ?_
          refine ops_yes rfl rfl ?_
          refine ops_valB (yld_eql rfl rfl) rfl fun r35 hr35 => ?_
          refine ops_val (yld_pick_t rfl rfl) rfl ?_
          refine ops_val (yld_move rfl) rfl ?_
          cases r35
          · skip
            replace hr35 := ne_of_beq_false hr35
            refine ops_no rfl rfl rfl rfl ?_
            refine ops_no rfl rfl rfl rfl ?_
            refine ops_no rfl rfl rfl rfl ?_
            refine ops_val (yld_pick_f rfl rfl) rfl ?_
            refine ops_val (yld_move rfl) rfl ?_
            refine ops_no rfl rfl rfl rfl ?_
            refine ops_no rfl rfl rfl rfl ?_
            refine ops_no rfl rfl rfl rfl ?_
            refine ops_val (yld_pick_f rfl rfl) rfl ?_
            refine ops_val (yld_assign rfl) rfl ?_
            refine ops_nil ?_
            refine fin_next rfl ?_
            refine run_ret ?_
            exact ret1 Tryz.results5 () (get_bool rfl (by rw [goal_bad (by omega)] at hG; rw [piecesL_one, if_neg (by omega)] at hP; simp only [Prod.mk.injEq] at hG hP; obtain ⟨rfl, rfl, rfl⟩ := hG; obtain ⟨rfl, rfl⟩ := hP; subst_vars; simp_all)) pf_nil (fun _ _ _ => trivial)
          · skip
            replace hr35 := eq_of_beq hr35
            refine ops_yes rfl rfl ?_
            refine ops_val (yld_move rfl) rfl ?_
            refine ops_yes rfl rfl ?_
            refine ops_val (yld_lenS Tryz.runUnderlying25 rfl) rfl ?_
            refine ops_yes rfl rfl ?_
            refine ops_valB (yld_eql rfl rfl) rfl fun r36 hr36 => ?_
            refine ops_val (yld_pick_t rfl rfl) rfl ?_
            refine ops_val (yld_move rfl) rfl ?_
            cases r36
            · skip
              replace hr36 := ne_of_beq_false hr36
              refine ops_no rfl rfl rfl rfl ?_
              refine ops_no rfl rfl rfl rfl ?_
              refine ops_no rfl rfl rfl rfl ?_
              refine ops_val (yld_pick_f rfl rfl) rfl ?_
              refine ops_val (yld_assign rfl) rfl ?_
              refine ops_nil ?_
              refine fin_next rfl ?_
              refine run_ret ?_
              exact ret1 Tryz.results5 () (get_bool rfl (by rw [goal_bad (by omega)] at hG; rw [piecesL_one, if_neg (by omega)] at hP; simp only [Prod.mk.injEq] at hG hP; obtain ⟨rfl, rfl, rfl⟩ := hG; obtain ⟨rfl, rfl⟩ := hP; subst_vars; simp_all)) pf_nil (fun _ _ _ => trivial)
            · skip
              replace hr36 := eq_of_beq hr36
              refine ops_yes rfl rfl ?_
              refine ops_val (yld_move rfl) rfl ?_
              refine ops_yes rfl rfl ?_
              refine ops_val (yld_lenS Tryz.runUnderlying43 rfl) rfl ?_
              refine ops_yes rfl rfl ?_
              refine ops_valB (yld_eql rfl rfl) rfl fun r37 hr37 => ?_
              refine ops_val (yld_pick_t rfl rfl) rfl ?_
              refine ops_val (yld_assign rfl) rfl ?_
              refine ops_nil ?_
              refine fin_next rfl ?_
              refine run_ret ?_
              exact ret1 Tryz.results5 () (get_bool rfl (by rw [goal_bad (by omega)] at hG; rw [piecesL_one, if_neg (by omega)] at hP; simp only [Prod.mk.injEq] at hG hP; obtain ⟨rfl, rfl, rfl⟩ := hG; obtain ⟨rfl, rfl⟩ := hP; subst_vars; simp_all)) pf_nil (fun _ _ _ => trivial)
    · skip
      replace hr1 := ne_of_bne hr1
      exfalso; rw [piecesL_one] at hP; split at hP <;> simp only [Prod.mk.injEq] at hP <;> omega

end Go.Proofs.YtoafjmalfclpoaaGreatDoor
