/-
  Part of the proof of the law NormalParts over this seat (no condition).
-/
import Derived.Test.YtoafjmalfclpoaaGreatDoorPk2
import Derived.Test.YtoafjmalfclpoaaGreatDoorPk7
import Derived.Test.YtoafjmalfclpoaaGreatDoorPk6
set_option linter.unusedVariables false
set_option linter.unusedSimpArgs false
set_option linter.unusedSectionVars false
/-
  Atoms and roles of what is valid are valid; sizes; sub-concepts of valid concepts are valid.
-/
namespace Go.Vs
open Go Go.Sx
/-! ### names -/
theorem word_ne {s : Str} (h : wordS s = true) : ∃ c t, s = c :: t ∧ letterS c = true ∧ tailS s = true := by
  cases s with
  | nil => simp [wordS] at h
  | cons c t =>
    simp only [wordS, Bool.and_eq_true] at h
    exact ⟨c, t, rfl, h.1.1.2, h.1.2⟩
theorem plain_head {s : Str} (h : plainS s = true) : ∃ c t, s = c :: t ∧ letterS c = true := by
  unfold plainS at h
  simp only [Bool.and_eq_true] at h
  cases hx : ixS 58 s with
  | none => rw [hx] at h; obtain ⟨c, t, h1, h2, _⟩ := word_ne h.2; exact ⟨c, t, h1, h2⟩
  | some k =>
    rw [hx] at h
    simp only [Bool.and_eq_true] at h
    obtain ⟨c, t, h1, h2, _⟩ := word_ne h.2.1
    cases s with
    | nil => simp at h1
    | cons d u =>
      cases k with
      | zero => simp at h1
      | succ k => simp only [List.take_succ_cons, List.cons.injEq] at h1; exact ⟨d, u, rfl, h1.1 ▸ h2⟩
theorem tail_mem {s : Str} (h : tailS s = true) : ∀ c ∈ s, innerS c = true := fun c hc => List.all_eq_true.1 h c hc
theorem ixS_split {c : UInt8} {s : Str} {k : Nat} (h : ixS c s = some k) : s = s.take k ++ c :: s.drop (k + 1) := by
  induction s generalizing k with
  | nil => simp [ixS] at h
  | cons b s ih =>
    simp only [ixS] at h
    split at h
    · rename_i hb
      simp only [Option.some.injEq] at h
      subst h; subst hb; simp
    · cases hx : ixS c s with
      | none => rw [hx] at h; simp at h
      | some j =>
        rw [hx] at h
        simp only [Option.map_some, Option.some.injEq] at h
        subst h
        simp only [List.take_succ_cons, List.drop_succ_cons, List.cons_append]
        rw [← ih hx]
theorem plain_mem {s : Str} (h : plainS s = true) : ∀ c ∈ s, innerS c = true ∨ c = 58 := by
  unfold plainS at h
  simp only [Bool.and_eq_true] at h
  cases hx : ixS 58 s with
  | none => rw [hx] at h; obtain ⟨_, _, _, _, h3⟩ := word_ne h.2; exact fun c hc => .inl (tail_mem h3 c hc)
  | some k =>
    rw [hx] at h
    simp only [Bool.and_eq_true] at h
    obtain ⟨_, _, _, _, h3⟩ := word_ne h.2.1
    obtain ⟨_, _, _, _, h4⟩ := word_ne h.2.2
    intro c hc
    rw [ixS_split hx] at hc
    rcases List.mem_append.1 hc with hc | hc
    · exact .inl (tail_mem h3 c hc)
    · rcases List.mem_cons.1 hc with rfl | hc
      · exact .inr rfl
      · exact .inl (tail_mem h4 c hc)
theorem ixS_not_mem {c : UInt8} : ∀ {s : Str}, c ∉ s → ixS c s = none
  | [], _ => rfl
  | b :: s, h => by
    simp only [List.mem_cons, not_or] at h
    simp only [ixS]
    rw [if_neg (fun e => h.1 e.symm), ixS_not_mem h.2]; rfl
theorem plain_nodot {s : Str} (h : plainS s = true) : splitS 46 s = [s] :=
  splitS_none (ixS_not_mem fun hm => by rcases plain_mem h 46 hm with h | h <;> revert h <;> decide)
theorem person_of_plain {s : Str} (h : plainS s = true) : personS s = true := by simp [personS, h]
theorem role_plain {s : Str} (h : plainS s = true) : roleS s = true := by
  unfold roleS
  rw [plain_nodot h]
  simp [person_of_plain h]
theorem splitS_app (c : UInt8) : ∀ (f r : Str), splitS c (f ++ [c] ++ r) = splitS c f ++ splitS c r
  | [], r => by simp [splitS]
  | b :: f, r => by
    have ih := splitS_app c f r
    simp only [List.append_assoc, List.cons_append, List.nil_append] at ih ⊢
    by_cases hb : b = c
    · subst hb; simp only [splitS, if_true, ih, List.cons_append]
    · simp only [splitS, hb, if_false, ih]
      cases hs : splitS c f with
      | nil => exact absurd hs (splitS_ne c f)
      | cons x t => simp
theorem letter_not {c : UInt8} (h : letterS c = true) : c ≠ 42 ∧ c ≠ 33 ∧ c ≠ 123 ∧ c ≠ 60 ∧ c ≠ 95 := by
  refine ⟨?_, ?_, ?_, ?_, ?_⟩ <;> rintro rfl <;> revert h <;> decide
theorem atom_plain {s : Str} (h : plainS s = true) : atomS s = true := by
  obtain ⟨c, t, rfl, hc⟩ := plain_head h
  obtain ⟨h1, h2, h3, h4, _⟩ := letter_not hc
  unfold atomS
  rw [if_neg (by simp [h1, h2]), if_neg (by simp [h3]), if_neg (by simp [h4])]
  exact person_of_plain h
theorem atom_ind {s : Str} (h : personS s = true) : atomS ([123] ++ s ++ [125]) = true := by
  unfold atomS
  have e : ([123] ++ s ++ [125]).length = s.length + 2 := by simp
  rw [if_neg (by simp), if_pos (by
    refine ⟨by omega, by simp, ?_⟩
    rw [List.getElem?_append_right (by simp)]; simp)]
  rw [e]
  have : (List.drop 1 ([123] ++ s ++ [125])).take (s.length + 2 - 1 - 1) = s := by simp
  rw [this]; exact h
theorem atom_angle {t : Str} (h : t ≠ []) : atomS ([60] ++ t ++ [62]) = true := by
  unfold atomS
  have hl : 0 < t.length := List.length_pos_iff.2 h
  have e : ([60] ++ t ++ [62]).length = t.length + 2 := by simp
  rw [if_neg (by simp), if_neg (by simp), if_pos (by
    refine ⟨by omega, by simp, ?_⟩
    rw [List.getElem?_append_right (by simp)]; simp)]
/-! ### sizes and nesting -/
namespace Con
def dep : Con → Nat
  | mk _ _ _ _ _ _ ps => deps ps
where deps : List Con → Nat
  | [] => 0
  | p :: ps => max (1 + dep p) (deps ps)
theorem dep_mem {p : Con} : ∀ {ps : List Con}, p ∈ ps → 1 + p.dep ≤ dep.deps ps
  | q :: ps, h => by
    rcases List.mem_cons.1 h with rfl | h
    · simp only [dep.deps]; omega
    · have := dep_mem h; simp only [dep.deps]; omega
theorem dep_eq (c : Con) : c.dep = dep.deps c.parts := by cases c; rfl
theorem sz_eq (c : Con) : c.sz = 1 + sz.szs c.parts := by cases c; rfl
theorem fits_iff : ∀ (m : Nat) (c : Con), c.sz ≤ m → ∀ d n, (c.fits d n).1 = true ↔ d + c.dep ≤ 8 ∧ n + c.sz ≤ 64
  | 0, c, h => by have := c.sz_pos; omega
  | m + 1, c, h => fun d n => by
    have key : ∀ ps : List Con, (∀ p ∈ ps, p.sz ≤ m) → ∀ n, n ≤ 64 → ((fits.fitss ps (d + 1) n).1 = true ↔ (∀ p ∈ ps, d + 1 + p.dep ≤ 8) ∧ n + sz.szs ps ≤ 64) := by
      intro ps
      induction ps with
      | nil => intro _ n hn; simp [fits.fitss, sz.szs, hn]
      | cons p ps ih =>
        intro hp n hn
        have h1 := fits_iff m p (hp p (by simp)) (d + 1) n
        simp only [fits.fitss, sz.szs, List.mem_cons, forall_eq_or_imp]
        rcases hq : p.fits (d + 1) n with ⟨b, q⟩
        rw [hq] at h1
        cases b with
        | true =>
          have hs := fits_sz _ p (Nat.le_refl _) (d + 1) n (by rw [hq])
          rw [hq] at hs
          simp only at hs h1 ⊢
          have h2 := h1.1 trivial
          rw [ih (fun r hr => hp r (by simp [hr])) q (by omega)]
          constructor
          · rintro ⟨a, b⟩; exact ⟨⟨h2.1, a⟩, by omega⟩
          · rintro ⟨⟨_, a⟩, b⟩; exact ⟨a, by omega⟩
        | false =>
          simp only [Bool.false_eq_true, false_iff] at h1 ⊢
          rintro ⟨⟨a, _⟩, b⟩
          exact h1 ⟨a, by omega⟩
    have hd := dep_eq c
    have hz := sz_eq c
    rw [fits_eq]
    split
    · rename_i hc
      simp only [Bool.or_eq_true, decide_eq_true_eq] at hc
      simp only [Bool.false_eq_true, false_iff]
      rintro ⟨a, b⟩
      omega
    · rename_i hc
      simp only [Bool.or_eq_true, decide_eq_true_eq, not_or] at hc
      rw [key c.parts (fun p hp => by have := sz_part hp; omega) (n + 1) (by omega), hd, hz]
      constructor
      · rintro ⟨a, b⟩
        refine ⟨?_, by omega⟩
        have : ∀ ps : List Con, (∀ p ∈ ps, d + 1 + p.dep ≤ 8) → d + dep.deps ps ≤ 8 := by
          intro ps
          induction ps with
          | nil => intro _; simp [dep.deps]; omega
          | cons p ps ih =>
            intro hp
            have h1 := hp p (by simp)
            have h2 := ih fun q hq => hp q (by simp [hq])
            simp only [dep.deps]; omega
        exact this _ a
      · rintro ⟨a, b⟩
        exact ⟨fun p hp => by have := dep_mem hp; omega, by omega⟩
theorem check_iff (c : Con) : c.check = 0 ↔ c.dep ≤ 8 ∧ c.sz ≤ 64 ∧ c.fine := by
  unfold check fine
  have h := fits_iff _ c (Nat.le_refl _) 0 0
  by_cases hf : (c.fits 0 0).1 = true
  · rw [if_pos hf]
    have := h.1 hf
    constructor
    · intro e; exact ⟨by omega, by omega, e⟩
    · exact fun e => e.2.2
  · rw [if_neg hf]
    constructor
    · intro e; cases e
    · intro e; exact absurd (h.2 ⟨by omega, by omega⟩) hf
theorem check_part {c p : Con} (h : c.check = 0) (hp : p ∈ c.parts) : p.check = 0 := by
  rw [check_iff] at h ⊢
  have h1 := dep_mem hp
  rw [← dep_eq] at h1
  have h2 := sz_part hp
  exact ⟨by omega, by omega, fine_part h.2.2 hp⟩
structure Names (c : Con) : Prop where
  plain : c.kind = 3 ∨ c.kind = 6 ∨ c.kind = 7 → plainS c.name = true
  person : c.kind = 4 → personS c.name = true
  nums : c.kind = 7 → -1099511627776 ≤ c.lo ∧ c.lo ≤ c.hi ∧ c.hi ≤ 1099511627776
theorem names_of {c : Con} (h : c.fine) : Names c := by
  have F := fields h
  have hk : c.kind = 1 ∨ c.kind = 2 ∨ c.kind = 3 ∨ c.kind = 4 ∨ c.kind = 5 ∨ c.kind = 6 ∨ c.kind = 7 := by have := F.k1; have := F.k7; omega
  have h0 := ((fine_iff c).1 h).1
  unfold fieldErr at h0
  rw [if_neg (by have := F.k1; have := F.k7; omega)] at h0
  split at h0
  · cases h0
  · split at h0
    · cases h0
    · rename_i h3
      split at h0
      · cases h0
      · split at h0
        · rename_i h5
          refine ⟨fun e => ?_, fun e => ?_, fun e => ?_⟩
          · rcases e with e | e | e <;> rw [e] at h5 <;> simpa [nd, needL] using h5
          · rw [e] at h5
            simp [nd, needL] at h5
            simp [personS, h5]
          · rw [e] at h3
            simp [nd, needL] at h3
            omega
        · cases h0
theorem join_two (x y : Str) (r : List Str) (sep : Str) : Lib.join (x :: y :: r) sep = x ++ sep ++ Lib.join (y :: r) sep := by simp [Lib.join, List.intercalate]
theorem text_ne {c : Con} (h : c.fine) (hk : 5 ≤ c.kind) : c.text ≠ [] := by
  have F := fields h
  have h7 := F.k7
  rw [text_eq, if_neg (by omega), if_neg (by omega), if_neg (by omega), if_neg (by omega)]
  split
  · rename_i h5
    have hl := F.le
    rw [h5] at hl
    simp [nd, needL] at hl
    match hp : c.parts, hl with
    | [], hl => simp at hl
    | [_], hl => simp at hl
    | p :: q :: r, _ => simp only [List.map_cons, join_two]; simp
  · split
    · simp only [join_two]; simp
    · simp only [join_two]; simp
theorem atom_ok {c : Con} (h : c.check = 0) : atomS c.atom = true := by
  have hf := (check_zero h).1
  have F := fields hf
  have N := names_of hf
  have h1 := F.k1
  have h7 := F.k7
  unfold atom
  split
  · rfl
  · split
    · rfl
    · split
      · exact atom_plain (N.plain (by omega))
      · split
        · exact atom_ind (N.person (by omega))
        · unfold textN
          rw [if_pos h]
          exact atom_angle (text_ne hf (by omega))
theorem atom_len {c : Con} (hok : c.ok) (h : c.check = 0) : c.atom.length ≤ 7000 := by
  have F := fields (check_zero h).1
  have hn := F.nm
  have ht := textN_len hok
  unfold atom
  repeat' split
  all_goals simp <;> omega
/-- the first parts of a conjunction -/
theorem pre_check {c : Con} (h : c.check = 0) (hk : c.kind = 5) {j : Nat} (h2 : 2 ≤ j) (hj : j ≤ c.parts.length) : (c.pre j).check = 0 := by
  have hf := (check_zero h).1
  have F := fields hf
  have hmo := F.mo
  rw [hk] at hmo
  simp [nd, needL] at hmo
  rw [check_iff] at h ⊢
  have key : ∀ (ps : List Con) (j : Nat), sz.szs (ps.take j) ≤ sz.szs ps ∧ dep.deps (ps.take j) ≤ dep.deps ps := by
    intro ps
    induction ps with
    | nil => intro j; simp
    | cons p ps ih =>
      intro j
      cases j with
      | zero => simp [sz.szs, dep.deps]
      | succ j => have := ih j; simp only [List.take_succ_cons, sz.szs, dep.deps]; omega
  have h1 := key c.parts j
  have e1 := dep_eq c
  have e2 := sz_eq c
  refine ⟨?_, ?_, ?_⟩
  · rw [dep_eq]; show dep.deps (c.parts.take j) ≤ 8; omega
  · rw [sz_eq]; show 1 + sz.szs (c.parts.take j) ≤ 64; omega
  · rw [fine_iff]
    refine ⟨?_, fun p hp => fine_part hf (List.mem_of_mem_take hp)⟩
    unfold fieldErr
    have hlen : (c.pre j).parts.length = j := by show (c.parts.take j).length = j; simp; omega
    rw [if_neg (by show ¬ ((5 : Int) < 1 ∨ 7 < (5 : Int)); omega)]
    simp only [hlen]
    have hk5 : (c.pre j).kind = 5 := rfl
    rw [hk5]
    simp [nd, needL, pre, name, lo, hi]
    omega
end Con
end Go.Vs

/-
  The pieces of valid axioms are valid; the pieces of a list are those of its parts.
-/
namespace Go.Vs
open Go Go.Sx
structure PQ (f : Int) (q : Pc) : Prop where
  frm : q.frm = f
  sm : q.sm
  ok : q.valid = true
section
variable {f : Int} (h0 : -1 ≤ f) (h1 : f < 1024) {a b c r s t : Str} {lo hi : Int}
include h0 h1
theorem val1 (ha : atomS a = true) (hc : atomS c = true) : Pc.valid ⟨1, a, [], c, [], [], [], 0, 0, f⟩ = true := by
  unfold Pc.valid; rw [if_neg (by simp; omega)]; simp [nus, nuseL, fldS, ha, hc]
theorem val2 (ha : atomS a = true) (hb : atomS b = true) (hc : atomS c = true) : Pc.valid ⟨2, a, b, c, [], [], [], 0, 0, f⟩ = true := by
  unfold Pc.valid; rw [if_neg (by simp; omega)]; simp [nus, nuseL, fldS, ha, hb, hc]
theorem val3 (ha : atomS a = true) (hr : roleS r = true) (hc : atomS c = true) : Pc.valid ⟨3, a, [], c, r, [], [], 0, 0, f⟩ = true := by
  unfold Pc.valid; rw [if_neg (by simp; omega)]; simp [nus, nuseL, fldS, ha, hr, hc]
theorem val4 (ha : atomS a = true) (hr : roleS r = true) (hc : atomS c = true) : Pc.valid ⟨4, a, [], c, r, [], [], 0, 0, f⟩ = true := by
  unfold Pc.valid; rw [if_neg (by simp; omega)]; simp [nus, nuseL, fldS, ha, hr, hc]
theorem val5 (hr : roleS r = true) (ht : roleS t = true) : Pc.valid ⟨5, [], [], [], r, [], t, 0, 0, f⟩ = true := by
  unfold Pc.valid; rw [if_neg (by simp; omega)]; simp [nus, nuseL, fldS, hr, ht]
theorem val6 (hr : roleS r = true) (hs : roleS s = true) (ht : roleS t = true) : Pc.valid ⟨6, [], [], [], r, s, t, 0, 0, f⟩ = true := by
  unfold Pc.valid; rw [if_neg (by simp; omega)]; simp [nus, nuseL, fldS, hr, hs, ht]
theorem val7 (hr : roleS r = true) : Pc.valid ⟨7, [], [], [], r, [], [], 0, 0, f⟩ = true := by
  unfold Pc.valid; rw [if_neg (by simp; omega)]; simp [nus, nuseL, fldS, hr]
theorem val8 (ha : atomS a = true) (hr : personS r = true) (hn : -1099511627776 ≤ lo ∧ lo ≤ hi ∧ hi ≤ 1099511627776) : Pc.valid ⟨8, a, [], [], r, [], [], lo, hi, f⟩ = true := by
  unfold Pc.valid; rw [if_neg (by simp; omega), if_neg (by simp [nus, nuseL]; omega)]; simp [nus, nuseL, fldS, ha, hr]
theorem val9 (hc : atomS c = true) (hr : personS r = true) (hn : -1099511627776 ≤ lo ∧ lo ≤ hi ∧ hi ≤ 1099511627776) : Pc.valid ⟨9, [], [], c, r, [], [], lo, hi, f⟩ = true := by
  unfold Pc.valid; rw [if_neg (by simp; omega), if_neg (by simp [nus, nuseL]; omega)]; simp [nus, nuseL, fldS, hc, hr]
end
theorem ins_all {Q : Pc → Prop} {f : Int} {l : List Pc} {p : Pc} (hl : ∀ q ∈ l, Q q) (hp : Q { p with frm := f }) : ∀ q ∈ ins f l p, Q q := by
  unfold ins
  split
  · exact hl
  · intro q hq
    rcases List.mem_append.1 hq with hq | hq
    · exact hl q hq
    · simp only [List.mem_singleton] at hq; subst hq; exact hp
theorem plain_lt {s : Str} (h : plainS s = true) : s.length ≤ 24 := Con.plain_len h
theorem person_lt {s : Str} (h : personS s = true) : s.length ≤ 24 := by
  simp only [personS, Bool.or_eq_true] at h
  rcases h with h | h
  · exact Con.plain_len h
  · exact Con.reserved_len h
namespace Con
section
variable {f : Int} (h0 : -1 ≤ f) (h1 : f < 1024)
include h0 h1
theorem andP_all (c : Con) (hok : c.ok) (hc : c.check = 0) (hk : c.kind = 5) : ∀ (r : List Con) (j : Nat) (a : Str) (l : List Pc), 1 ≤ j → j + r.length ≤ c.parts.length → (∀ p ∈ r, p ∈ c.parts) → atomS a = true → a.length ≤ 7000 → (∀ q ∈ l, PQ f q) → ∀ q ∈ andP f c r j a l, PQ f q
  | [], _, _, l, _, _, _, _, _, hl => hl
  | p :: r, j, a, l, hj, hlen, hm, ha, hal, hl => by
    simp only [List.length_cons] at hlen
    have hp := hm p (by simp)
    have hpre := pre_check hc hk (j := j + 1) (by omega) (by omega)
    have x1 := atom_ok hpre
    have x2 := atom_len (pre_ok hok (j + 1)) hpre
    have x3 := atom_ok (check_part hc hp)
    have x4 := atom_len (ok_part hok hp) (check_part hc hp)
    simp only [andP]
    exact andP_all c hok hc hk r (j + 1) _ _ (by omega) (by omega) (fun q hq => hm q (by simp [hq])) x1 x2
      (ins_all hl ⟨rfl, ⟨by dsimp only; omega, by dsimp only; omega, by dsimp only; omega, by simp, by simp, by simp⟩, val2 h0 h1 ha x3 x1⟩)
theorem leftP_all : ∀ (m : Nat) (c : Con), c.sz ≤ m → c.ok → c.check = 0 → ∀ l, (∀ q ∈ l, PQ f q) → ∀ q ∈ c.leftP f l, PQ f q
  | 0, c, h => by have := c.sz_pos; omega
  | m + 1, c, h => fun hok hc l hl => by
    have key : ∀ ps : List Con, (∀ p ∈ ps, p ∈ c.parts) → ∀ l, (∀ q ∈ l, PQ f q) → ∀ q ∈ leftP.lefts f ps l, PQ f q := by
      intro ps
      induction ps with
      | nil => intro _ l hl; exact hl
      | cons p ps ih =>
        intro hp l hl
        have hpm := hp p (by simp)
        exact ih (fun q hq => hp q (by simp [hq])) _ (leftP_all m p (by have := sz_part hpm; omega) (ok_part hok hpm) (check_part hc hpm) l hl)
    have hk := key c.parts (fun _ h => h) l hl
    have F := fields (check_zero hc).1
    have N := names_of (check_zero hc).1
    have ca := atom_ok hc
    have cl := atom_len hok hc
    rw [leftP_eq]
    split
    · rename_i h5
      have hle := F.le
      rw [h5] at hle
      simp [nd, needL] at hle
      match hp : c.parts, hle with
      | [], hle => simp at hle
      | p :: r, _ =>
        have hpm : p ∈ c.parts := by rw [hp]; simp
        have x3 := atom_ok (check_part hc hpm)
        have x4 := atom_len (ok_part hok hpm) (check_part hc hpm)
        refine andP_all h0 h1 c hok hc h5 _ 1 _ _ (by omega) (by rw [hp]; simp; omega) (fun q hq => by rw [hp]; exact List.mem_of_mem_drop hq) (by simpa using x3) (by simpa using x4) (by rw [hp] at hk; exact hk)
    · split
      · rename_i h6
        have hle := F.le
        rw [h6] at hle
        simp [nd, needL] at hle
        have hpl := N.plain (.inr (.inl h6))
        match hp : c.parts, hle with
        | [], hle => simp at hle
        | p :: r, _ =>
          have hpm : p ∈ c.parts := by rw [hp]; simp
          have x3 := atom_ok (check_part hc hpm)
          have x4 := atom_len (ok_part hok hpm) (check_part hc hpm)
          have x5 := plain_lt hpl
          rw [hp] at hk
          exact ins_all hk ⟨rfl, ⟨by simp; omega, by simp, by dsimp only; omega, by dsimp only; omega, by simp, by simp⟩, val4 h0 h1 (by simpa using x3) (role_plain hpl) ca⟩
      · split
        · rename_i h7
          have hpl := N.plain (.inr (.inr h7))
          have x5 := plain_lt hpl
          exact ins_all hl ⟨rfl, ⟨by simp, by simp, by dsimp only; omega, by dsimp only; omega, by simp, by simp⟩, val9 h0 h1 ca (person_of_plain hpl) (N.nums h7)⟩
        · exact hl
theorem rightP_all : ∀ (m : Nat) (c : Con), c.sz ≤ m → c.ok → c.check = 0 → ∀ l, (∀ q ∈ l, PQ f q) → ∀ q ∈ c.rightP f l, PQ f q
  | 0, c, h => by have := c.sz_pos; omega
  | m + 1, c, h => fun hok hc l hl => by
    have ca := atom_ok hc
    have cl := atom_len hok hc
    have key : ∀ ps : List Con, (∀ p ∈ ps, p ∈ c.parts) → ∀ l, (∀ q ∈ l, PQ f q) → ∀ q ∈ rightP.rights f c.atom ps l, PQ f q := by
      intro ps
      induction ps with
      | nil => intro _ l hl; exact hl
      | cons p ps ih =>
        intro hp l hl
        have hpm := hp p (by simp)
        have x3 := atom_ok (check_part hc hpm)
        have x4 := atom_len (ok_part hok hpm) (check_part hc hpm)
        exact ih (fun q hq => hp q (by simp [hq])) _ (rightP_all m p (by have := sz_part hpm; omega) (ok_part hok hpm) (check_part hc hpm) _
          (ins_all hl ⟨rfl, ⟨by dsimp only; omega, by simp, by dsimp only; omega, by simp, by simp, by simp⟩, val1 h0 h1 ca x3⟩))
    have key2 : ∀ ps : List Con, (∀ p ∈ ps, p ∈ c.parts) → ∀ l, (∀ q ∈ l, PQ f q) → ∀ q ∈ rightP.righty f ps l, PQ f q := by
      intro ps
      induction ps with
      | nil => intro _ l hl; exact hl
      | cons p ps ih =>
        intro hp l hl
        have hpm := hp p (by simp)
        exact ih (fun q hq => hp q (by simp [hq])) _ (rightP_all m p (by have := sz_part hpm; omega) (ok_part hok hpm) (check_part hc hpm) l hl)
    have F := fields (check_zero hc).1
    have N := names_of (check_zero hc).1
    rw [rightP_eq]
    split
    · exact key c.parts (fun _ h => h) l hl
    · split
      · rename_i h6
        have hle := F.le
        rw [h6] at hle
        simp [nd, needL] at hle
        have hpl := N.plain (.inr (.inl h6))
        have x5 := plain_lt hpl
        refine key2 c.parts (fun _ h => h) _ (ins_all hl ?_)
        match hp : c.parts, hle with
        | [], hle => simp at hle
        | p :: r, _ =>
          have hpm : p ∈ c.parts := by rw [hp]; simp
          have x3 := atom_ok (check_part hc hpm)
          have x4 := atom_len (ok_part hok hpm) (check_part hc hpm)
          exact ⟨rfl, ⟨by dsimp only; omega, by simp, by simp; omega, by dsimp only; omega, by simp, by simp⟩, val3 h0 h1 ca (role_plain hpl) (by simpa using x3)⟩
      · split
        · rename_i h7
          have hpl := N.plain (.inr (.inr h7))
          have x5 := plain_lt hpl
          exact ins_all hl ⟨rfl, ⟨by dsimp only; omega, by simp, by simp, by dsimp only; omega, by simp, by simp⟩, val8 h0 h1 ca (person_of_plain hpl) (N.nums h7)⟩
        · exact hl
end
end Con
namespace Ax
section
variable {f : Int} (h0 : -1 ≤ f) (h1 : f < 1024)
include h0 h1
theorem chainP_all (role : Str) (hr : plainS role = true) : ∀ (rs : List Str) (g : Str) (l : List Pc), (∀ r ∈ rs, plainS r = true) → (splitS 46 g).length + rs.length ≤ 4 → ((splitS 46 g).all personS = true) → g.length ≤ 100 * (splitS 46 g).length → (∀ q ∈ l, PQ f q) → ∀ q ∈ chainP f role rs g l, PQ f q
  | [], _, _, _, _, _, _, hl => hl
  | r :: t, g, l, hp, hn, hg, hgl, hl => by
    have hpr := hp r (by simp)
    have hrl := plain_lt hpr
    have hrol := plain_lt hr
    simp only [List.length_cons] at hn
    have hgr : roleS g = true := by
      unfold roleS
      rw [decide_eq_true (by omega)]
      simp only [Bool.true_and, Bool.not_eq_true']
      rw [List.any_eq_false]
      intro y hy
      simp [List.all_eq_true.1 hg y hy]
    simp only [chainP]
    by_cases ht : t = []
    · subst ht
      simp only [if_true, chainP]
      exact ins_all hl ⟨rfl, ⟨by simp, by simp, by simp, by dsimp only; omega, by dsimp only; omega, by dsimp only; omega⟩, val6 h0 h1 hgr (role_plain hpr) (role_plain hr)⟩
    · simp only [ht, if_false]
      have htl : 0 < t.length := List.length_pos_iff.2 ht
      have e := splitS_app 46 g r
      rw [plain_nodot hpr] at e
      have hall : (splitS 46 (g ++ [46] ++ r)).all personS = true := by rw [e, List.all_append, hg]; simp [person_of_plain hpr]
      have hlen : (splitS 46 (g ++ [46] ++ r)).length = (splitS 46 g).length + 1 := by rw [e]; simp
      have hgl2 : (g ++ [46] ++ r).length ≤ 100 * (splitS 46 (g ++ [46] ++ r)).length := by rw [hlen]; simp; omega
      have hgr2 : roleS (g ++ [46] ++ r) = true := by
        unfold roleS
        rw [decide_eq_true (by omega)]
        simp only [Bool.true_and, Bool.not_eq_true']
        rw [List.any_eq_false]
        intro y hy
        simp [List.all_eq_true.1 hall y hy]
      exact chainP_all role hr t _ _ (fun q hq => hp q (by simp [hq])) (by omega) hall hgl2
        (ins_all hl ⟨rfl, ⟨by simp, by simp, by simp, by dsimp only; omega, by dsimp only; omega, by dsimp only; omega⟩, val6 h0 h1 hgr (role_plain hpr) hgr2⟩)
theorem pieces_all {x : Ax} (hok : x.ok) (hc : x.check = 0) : ∀ q ∈ x.pieces f, PQ f q := by
  have G := good_of hc
  have L := fun (c : Con) (hok : c.ok) (hc : c.check = 0) => Con.leftP_all h0 h1 _ c (Nat.le_refl _) hok hc
  have Rr := fun (c : Con) (hok : c.ok) (hc : c.check = 0) => Con.rightP_all h0 h1 _ c (Nat.le_refl _) hok hc
  have n : ∀ q ∈ ([] : List Pc), PQ f q := fun q hq => by cases hq
  have h1' := G.k1
  have h9 := G.k9
  have A := fun (c : Con) (hok : c.ok) (hc : c.check = 0) => (⟨Con.atom_ok hc, Con.atom_len hok hc⟩ : atomS c.atom = true ∧ c.atom.length ≤ 7000)
  unfold pieces
  split
  · have l := G.left (by omega); have r := G.right (by omega)
    have a1 := A _ hok.left l; have a2 := A _ hok.right r
    exact ins_all (Rr _ hok.right r _ (L _ hok.left l _ n)) ⟨rfl, ⟨by dsimp only; omega, by simp, by dsimp only; omega, by simp, by simp, by simp⟩, val1 h0 h1 a1.1 a2.1⟩
  · split
    · have l := G.left (by omega); have r := G.right (by omega)
      have a1 := A _ hok.left l; have a2 := A _ hok.right r
      exact ins_all (Rr _ hok.left l _ (L _ hok.right r _ (ins_all (Rr _ hok.right r _ (L _ hok.left l _ n)) ⟨rfl, ⟨by dsimp only; omega, by simp, by dsimp only; omega, by simp, by simp, by simp⟩, val1 h0 h1 a1.1 a2.1⟩))) ⟨rfl, ⟨by dsimp only; omega, by simp, by dsimp only; omega, by simp, by simp, by simp⟩, val1 h0 h1 a2.1 a1.1⟩
    · split
      · have l := G.left (by omega); have r := G.right (by omega)
        have a1 := A _ hok.left l; have a2 := A _ hok.right r
        exact ins_all (L _ hok.right r _ (L _ hok.left l _ n)) ⟨rfl, ⟨by dsimp only; omega, by dsimp only; omega, by simp, by simp, by simp, by simp⟩, val2 h0 h1 a1.1 a2.1 rfl⟩
      · split
        · have r := G.right (by omega); have a2 := A _ hok.right r; have p := G.role (by omega); have pl := plain_lt p
          exact ins_all (Rr _ hok.right r _ n) ⟨rfl, ⟨by simp, by simp, by dsimp only; omega, by dsimp only; omega, by simp, by simp⟩, val4 h0 h1 rfl (role_plain p) a2.1⟩
        · split
          · rename_i h5
            have p := G.role (by omega); have pl := plain_lt p
            have ho := G.one h5
            match hr : x.roles, ho with
            | [r], _ =>
              have p2 := G.roles r (by rw [hr]; simp); have pl2 := plain_lt p2
              exact ins_all n ⟨rfl, ⟨by simp, by simp, by simp, by simp; omega, by simp, by dsimp only; omega⟩, val5 h0 h1 (by simpa using role_plain p2) (role_plain p)⟩
          · split
            · rename_i h6
              have p := G.role (by omega)
              have hch := G.chain h6
              match hr : x.roles, hch with
              | [], hch => simp at hch
              | r :: t, hch =>
                have p2 := G.roles r (by rw [hr]; simp); have pl2 := plain_lt p2
                have e := plain_nodot p2
                simp only [List.length_cons] at hch
                simp only [List.drop_succ_cons, List.drop_zero, List.headD_cons]
                exact chainP_all h0 h1 x.role p t r [] (fun q hq => G.roles q (by rw [hr]; simp [hq])) (by rw [e]; simp; omega) (by rw [e]; simp [person_of_plain p2]) (by rw [e]; simp; omega) n
            · split
              · have p := G.role (by omega); have pl := plain_lt p
                exact ins_all n ⟨rfl, ⟨by simp, by simp, by simp, by dsimp only; omega, by simp, by simp⟩, val7 h0 h1 (role_plain p)⟩
              · split
                · have r := G.right (by omega); have a2 := A _ hok.right r; have p := G.a (by omega); have pl := person_lt p
                  exact ins_all (Rr _ hok.right r _ n) ⟨rfl, ⟨by simp; omega, by simp, by dsimp only; omega, by simp, by simp, by simp⟩, val1 h0 h1 (atom_ind p) a2.1⟩
                · have p := G.role (by omega); have pl := plain_lt p; have pa := G.a (by omega); have pb := G.b (by omega); have l1 := person_lt pa; have l2 := person_lt pb
                  exact ins_all n ⟨rfl, ⟨by simp; omega, by simp, by simp; omega, by dsimp only; omega, by simp, by simp⟩, val3 h0 h1 (atom_ind pa) (role_plain p) (atom_ind pb)⟩
end
end Ax
/-! ### another From -/
def shift (k : Int) (p : Pc) : Pc := { p with frm := p.frm + k }
theorem shift_inj {k : Int} {p q : Pc} (h : shift k p = shift k q) : p = q := by
  cases p; cases q
  simp only [shift, Pc.mk.injEq] at h ⊢
  refine ⟨h.1, h.2.1, h.2.2.1, h.2.2.2.1, h.2.2.2.2.1, h.2.2.2.2.2.1, h.2.2.2.2.2.2.1, h.2.2.2.2.2.2.2.1, h.2.2.2.2.2.2.2.2.1, by omega⟩
theorem ins_shift (f k : Int) (l : List Pc) (p : Pc) : ins (f + k) (l.map (shift k)) p = (ins f l p).map (shift k) := by
  have hm : ({ p with frm := f + k } : Pc) ∈ l.map (shift k) ↔ ({ p with frm := f } : Pc) ∈ l := by
    rw [List.mem_map]
    constructor
    · rintro ⟨q, hq, e⟩
      have : q = { p with frm := f } := shift_inj (k := k) e
      exact this ▸ hq
    · exact fun h => ⟨_, h, rfl⟩
  unfold ins
  by_cases h : ({ p with frm := f } : Pc) ∈ l
  · rw [if_pos (hm.2 h), if_pos h]
  · rw [if_neg (fun q => h (hm.1 q)), if_neg h, List.map_append]; rfl
namespace Con
theorem andP_shift (f k : Int) (c : Con) : ∀ (r : List Con) (j : Nat) (a : Str) (l : List Pc), andP (f + k) c r j a (l.map (shift k)) = (andP f c r j a l).map (shift k)
  | [], _, _, _ => rfl
  | p :: r, j, a, l => by simp only [andP, ins_shift]; exact andP_shift f k c r (j + 1) _ _
theorem leftP_shift (f k : Int) : ∀ (m : Nat) (c : Con), c.sz ≤ m → ∀ l, c.leftP (f + k) (l.map (shift k)) = (c.leftP f l).map (shift k)
  | 0, c, h => by have := c.sz_pos; omega
  | m + 1, c, h => fun l => by
    have key : ∀ ps : List Con, (∀ p ∈ ps, p.sz ≤ m) → ∀ l, leftP.lefts (f + k) ps (l.map (shift k)) = (leftP.lefts f ps l).map (shift k) := by
      intro ps
      induction ps with
      | nil => intro _ l; rfl
      | cons p ps ih =>
        intro hp l
        simp only [leftP.lefts]
        rw [leftP_shift f k m p (hp p (by simp)) l]
        exact ih (fun q hq => hp q (by simp [hq])) _
    have hk := key c.parts (fun p hp => by have := sz_part hp; omega) l
    rw [leftP_eq, leftP_eq, hk]
    split
    · exact andP_shift _ _ _ _ _ _ _
    · split
      · exact ins_shift _ _ _ _
      · split
        · exact ins_shift _ _ _ _
        · rfl
theorem rightP_shift (f k : Int) : ∀ (m : Nat) (c : Con), c.sz ≤ m → ∀ l, c.rightP (f + k) (l.map (shift k)) = (c.rightP f l).map (shift k)
  | 0, c, h => by have := c.sz_pos; omega
  | m + 1, c, h => fun l => by
    have key : ∀ ps : List Con, (∀ p ∈ ps, p.sz ≤ m) → ∀ a l, rightP.rights (f + k) a ps (l.map (shift k)) = (rightP.rights f a ps l).map (shift k) := by
      intro ps
      induction ps with
      | nil => intro _ a l; rfl
      | cons p ps ih =>
        intro hp a l
        simp only [rightP.rights]
        rw [ins_shift, rightP_shift f k m p (hp p (by simp))]
        exact ih (fun q hq => hp q (by simp [hq])) _ _
    have key2 : ∀ ps : List Con, (∀ p ∈ ps, p.sz ≤ m) → ∀ l, rightP.righty (f + k) ps (l.map (shift k)) = (rightP.righty f ps l).map (shift k) := by
      intro ps
      induction ps with
      | nil => intro _ l; rfl
      | cons p ps ih =>
        intro hp l
        simp only [rightP.righty]
        rw [rightP_shift f k m p (hp p (by simp))]
        exact ih (fun q hq => hp q (by simp [hq])) _
    have hps : ∀ p ∈ c.parts, p.sz ≤ m := fun p hp => by have := sz_part hp; omega
    rw [rightP_eq, rightP_eq]
    split
    · exact key c.parts hps _ l
    · split
      · rw [ins_shift]; exact key2 c.parts hps _
      · split
        · exact ins_shift _ _ _ _
        · rfl
end Con
theorem Ax.chainP_shift (f k : Int) (ro : Str) : ∀ (rs : List Str) (g : Str) (l : List Pc), Ax.chainP (f + k) ro rs g (l.map (shift k)) = (Ax.chainP f ro rs g l).map (shift k)
  | [], _, _ => rfl
  | r :: t, g, l => by simp only [Ax.chainP, ins_shift]; exact Ax.chainP_shift f k ro t _ _
theorem Ax.pieces_shift (f k : Int) (x : Ax) : x.pieces (f + k) = (x.pieces f).map (shift k) := by
  have L := fun (c : Con) l => Con.leftP_shift f k _ c (Nat.le_refl _) l
  have Rr := fun (c : Con) l => Con.rightP_shift f k _ c (Nat.le_refl _) l
  have n : ([] : List Pc) = ([] : List Pc).map (shift k) := rfl
  unfold Ax.pieces
  repeat' split
  · rw [n, L, Rr, ins_shift]; rfl
  · rw [n, L, Rr, ins_shift, L, Rr, ins_shift]; rfl
  · rw [n, L, L, ins_shift]; rfl
  · rw [n, Rr, ins_shift]; rfl
  · rw [n, ins_shift]; rfl
  · rw [n, Ax.chainP_shift]; rfl
  · rw [n, ins_shift]; rfl
  · rw [n, Rr, ins_shift]; rfl
  · rw [n, ins_shift]; rfl
/-! ### lists -/
def flat : Nat → List Ax → List Pc
  | _, [] => []
  | i, x :: l => x.pieces (i : Int) ++ flat (i + 1) l
theorem flat_len : ∀ (i : Nat) (l : List Ax), (∀ x ∈ l, x.check = 0) → (flat i l).length ≤ 1000 * l.length
  | _, [], _ => by simp [flat]
  | i, x :: l, h => by
    have h1 := pieces_len (i : Int) (Ax.good_of (h x (by simp)))
    have h2 := flat_len (i + 1) l fun y hy => h y (by simp [hy])
    simp only [flat, List.length_append, List.length_cons]
    omega
theorem gather_eq : ∀ (l : List Ax) (i : Nat) (p : List Pc), (∀ x ∈ l, x.check = 0) → p.length + 1000 * l.length ≤ 16384 → gather i l p = some (p ++ flat i l)
  | [], i, p, _, _ => by simp [gather, flat]
  | x :: l, i, p, h, hl => by
    have h1 := pieces_len (i : Int) (Ax.good_of (h x (by simp)))
    simp only [List.length_cons] at hl
    simp only [gather, flat]
    rw [if_neg (by simp; omega), gather_eq l (i + 1) _ (fun y hy => h y (by simp [hy])) (by simp; omega), List.append_assoc]
theorem flat_append : ∀ (xs ys : List Ax) (i : Nat), flat i (xs ++ ys) = flat i xs ++ flat (i + xs.length) ys
  | [], ys, i => by simp [flat]
  | x :: xs, ys, i => by
    simp only [List.cons_append, flat, List.length_cons, List.append_assoc]
    rw [flat_append xs ys (i + 1), show i + 1 + xs.length = i + (xs.length + 1) by omega]
theorem flat_shift (k : Nat) : ∀ (l : List Ax) (i : Nat), flat (i + k) l = (flat i l).map (shift (k : Int))
  | [], _ => rfl
  | x :: l, i => by
    simp only [flat, List.map_append]
    rw [show ((i + k : Nat) : Int) = (i : Int) + (k : Int) by omega, Ax.pieces_shift, show i + k + 1 = i + 1 + k by omega, flat_shift k l (i + 1)]
/-- each piece belongs to a member of the list, in order -/
theorem flat_all : ∀ (l : List Ax) (i : Nat), i + l.length ≤ 1024 → (∀ x ∈ l, x.ok) → (∀ x ∈ l, x.check = 0) → ∀ q ∈ flat i l, (i : Int) ≤ q.frm ∧ q.frm < ((i + l.length : Nat) : Int) ∧ q.sm ∧ q.valid = true
  | [], _, _, _, _ => by simp [flat]
  | x :: l, i, hi, hok, hc => by
    simp only [List.length_cons] at hi ⊢
    intro q hq
    simp only [flat] at hq
    rcases List.mem_append.1 hq with hq | hq
    · have h := Ax.pieces_all (f := (i : Int)) (by omega) (by omega) (hok x (by simp)) (hc x (by simp)) q hq
      exact ⟨by rw [h.frm]; omega, by rw [h.frm]; omega, h.sm, h.ok⟩
    · have h := flat_all l (i + 1) (by omega) (fun y hy => hok y (by simp [hy])) (fun y hy => hc y (by simp [hy])) q hq
      exact ⟨by omega, by omega, h.2.2⟩
def Mono (l : List Pc) : Prop := l.Pairwise fun p q => p.frm ≤ q.frm
theorem flat_mono : ∀ (l : List Ax) (i : Nat), i + l.length ≤ 1024 → (∀ x ∈ l, x.ok) → (∀ x ∈ l, x.check = 0) → Mono (flat i l)
  | [], _, _, _, _ => List.Pairwise.nil
  | x :: l, i, hi, hok, hc => by
    simp only [List.length_cons] at hi
    have h := Ax.pieces_all (f := (i : Int)) (by omega) (by omega) (hok x (by simp)) (hc x (by simp))
    have h2 := flat_all l (i + 1) (by omega) (fun y hy => hok y (by simp [hy])) (fun y hy => hc y (by simp [hy]))
    simp only [flat, Mono]
    rw [List.pairwise_append]
    refine ⟨?_, flat_mono l (i + 1) (by omega) (fun y hy => hok y (by simp [hy])) (fun y hy => hc y (by simp [hy])), fun p hp q hq => ?_⟩
    · rw [List.pairwise_iff_getElem]
      intro a b ha hb _
      rw [(h _ (List.getElem_mem ha)).frm, (h _ (List.getElem_mem hb)).frm]; omega
    · rw [(h p hp).frm]
      have := (h2 q hq).1
      omega
theorem firstBad_ne : ∀ {l : List Ax}, firstBad l = 0 → ∀ x ∈ l, x.check = 0
  | [], _, _, h => by cases h
  | y :: l, hb, x, hx => by
    simp only [firstBad] at hb
    split at hb
    · rename_i hy
      rcases List.mem_cons.1 hx with rfl | hx
      · exact hy
      · exact firstBad_ne hb x hx
    · rename_i hy; exact absurd hb hy
theorem piecesL_ok {l : List Ax} (hl : l.length ≤ 12) (h : ∀ x ∈ l, x.check = 0) : piecesL l = (flat 0 l, 0) := by
  unfold piecesL
  rw [if_neg (by omega), if_neg (by simp [firstBad_zero h]), gather_eq l 0 [] h (by simp; omega)]
  simp
theorem piecesL_bad {l : List Ax} (hl : l.length ≤ 12) (h : firstBad l ≠ 0) : piecesL l = ([], firstBad l) := by
  unfold piecesL
  rw [if_neg (by omega), if_pos h]
structure PartsLaw (l : List Ax) (k : Nat) (p a b : List Pc) (er ef eg : Int) : Prop where
  bad : er ≠ 0 → p = [] ∧ (ef ≠ 0 ∨ eg ≠ 0)
  ef : er = 0 → ef = 0
  eg : er = 0 → eg = 0
  eq : er = 0 → p = a ++ b.map (shift (k : Int))
  chk : er = 0 → checkP p = 0
  sm : ∀ q ∈ p, q.sm
  rng : er = 0 → ∀ q ∈ p, 0 ≤ q.frm ∧ q.frm < (l.length : Int)
  mono : er = 0 → Mono p
  len : p.length ≤ 12000 ∧ a.length ≤ 12000 ∧ b.length ≤ 12000
  fb : er = 0 → ∀ q ∈ b, 0 ≤ q.frm ∧ q.frm ≤ 12
theorem parts_law {l : List Ax} {k : Nat} (hl : l.length ≤ 12) (hk : k ≤ l.length) (hok : ∀ x ∈ l, x.ok) {p a b : List Pc} {er ef eg : Int} (hP : piecesL l = (p, er)) (hA : piecesL (l.take k) = (a, ef)) (hB : piecesL (l.drop k) = (b, eg)) : PartsLaw l k p a b er ef eg := by
  have hlt : (l.take k).length ≤ 12 := by simp; omega
  have hld : (l.drop k).length ≤ 12 := by simp; omega
  have lens : ∀ (m : List Ax) (q : List Pc) (e : Int), m.length ≤ 12 → piecesL m = (q, e) → q.length ≤ 12000 ∧ ((firstBad m = 0 ∧ e = 0 ∧ q = flat 0 m ∧ ∀ x ∈ m, x.check = 0) ∨ (firstBad m ≠ 0 ∧ e ≠ 0 ∧ q = [])) := by
    intro m q e hm he
    by_cases hb : firstBad m = 0
    · have hc := firstBad_ne hb
      rw [piecesL_ok hm hc] at he
      simp only [Prod.mk.injEq] at he
      obtain ⟨rfl, rfl⟩ := he
      have := flat_len 0 m hc
      exact ⟨by omega, .inl ⟨hb, rfl, rfl, hc⟩⟩
    · rw [piecesL_bad hm hb] at he
      simp only [Prod.mk.injEq] at he
      obtain ⟨rfl, rfl⟩ := he
      exact ⟨by simp, .inr ⟨hb, hb, rfl⟩⟩
  obtain ⟨lp, cp⟩ := lens l p er hl hP
  obtain ⟨la, ca⟩ := lens _ a ef hlt hA
  obtain ⟨lb, cb⟩ := lens _ b eg hld hB
  rcases cp with ⟨p0, rfl, rfl, pc⟩ | ⟨p0, p1, rfl⟩
  · have ct : ∀ x ∈ l.take k, x.check = 0 := fun x hx => pc x (List.mem_of_mem_take hx)
    have cd : ∀ x ∈ l.drop k, x.check = 0 := fun x hx => pc x (List.mem_of_mem_drop hx)
    have hall := flat_all l 0 (by omega) hok pc
    rcases ca with ⟨_, rfl, rfl, _⟩ | ⟨a0, _, _⟩
    · rcases cb with ⟨_, rfl, rfl, _⟩ | ⟨b0, _, _⟩
      · have halld := flat_all (l.drop k) 0 (by omega) (fun x hx => hok x (List.mem_of_mem_drop hx)) cd
        refine ⟨fun h => absurd rfl h, fun _ => rfl, fun _ => rfl, fun _ => ?_, fun _ => ?_, fun q hq => (hall q hq).2.2.1, fun _ q hq => ?_, fun _ => flat_mono l 0 (by omega) hok pc, ⟨lp, la, lb⟩, fun _ q hq => ?_⟩
        · rw [← flat_shift k (l.drop k) 0]
          have e : l = l.take k ++ l.drop k := (List.take_append_drop k l).symm
          have h2 := flat_append (l.take k) (l.drop k) 0
          rw [List.take_append_drop, List.length_take, Nat.min_eq_left hk] at h2
          exact h2
        · unfold checkP
          rw [if_neg (by omega), if_pos (List.all_eq_true.2 fun q hq => (hall q hq).2.2.2)]
        · have := hall q hq; exact ⟨by omega, by omega⟩
        · have := halld q hq; exact ⟨by omega, by omega⟩
      · exact absurd (firstBad_zero cd) b0
    · exact absurd (firstBad_zero ct) a0
  · refine ⟨fun _ => ⟨rfl, ?_⟩, fun h => absurd h p1, fun h => absurd h p1, fun h => absurd h p1, fun h => absurd h p1, fun q hq => by (cases hq), fun h => absurd h p1, fun h => absurd h p1, ⟨by simp, la, lb⟩, fun h => absurd h p1⟩
    rcases ca with ⟨a0, _, _, ac⟩ | ⟨_, a1, _⟩
    · rcases cb with ⟨b0, _, _, bc⟩ | ⟨_, b1, _⟩
      · exfalso
        apply p0
        apply firstBad_zero
        intro x hx
        rw [← List.take_append_drop k l] at hx
        rcases List.mem_append.1 hx with hx | hx
        · exact ac x hx
        · exact bc x hx
      · exact .inr b1
    · exact .inl a1
end Go.Vs

/-
  My own contracts.
-/
namespace Go.Proofs.YtoafjmalfclpoaaGreatDoor
open Go Go.Sx Go.Proofs
set_option linter.unusedVariables false
attribute [local irreducible] Code.wp wpList wpAnyH

open Go.Vs
theorem axs_take {ad : Option Addr} {l : List Ax} {cap : Nat} {v : Vw} (h : (axsF ad l).p v) (hc : l.length ≤ cap) (k : Nat) : (axsF (sad ad cap 0 16) (List.take k l)).p v := by
  refine ⟨?_, fun x hx => h.2 x (List.mem_of_mem_take hx)⟩
  have := h.1.slice Ax.cells_len hc 0 k
  exact this
theorem axs_drop {ad : Option Addr} {l : List Ax} {cap : Nat} {v : Vw} (h : (axsF ad l).p v) (hc : l.length ≤ cap) (k : Nat) : (axsF (sad ad cap k 16) (List.drop k l)).p v :=
  ⟨h.1.rest Ax.cells_len hc k, fun x hx => h.2 x (List.mem_of_mem_drop hx)⟩

theorem normalParts_c (l : List Ax) (ad : Option Addr) (cap : Nat) (hcap : l.length ≤ cap ∧ cap ≤ 2199023255488) (hok : ∀ x ∈ l, x.ok) (n : Int) : Tri Tryz.prog 3 #[.slice ad (List.length l) cap, .int .i64 n] [] [axsF ad l, tabs] (fun _ : Unit => .bool true) (fun _ => []) (fun _ => []) := by
  refine tri_of_body Tryz.func3 rfl rfl Tryz.ntmps3 rfl fun v0 => ?_
  refine run_seq ?_
  refine run_region ?_
  refine ops_val (yld_assign rfl) rfl ?_
  refine ops_nil ?_
  refine fin_next rfl ?_
  refine run_seq ?_
  refine run_seq ?_
  refine run_region ?_
  refine ops_call (sane_c) rfl pf_nil (fun v _ h => by exact ⟨h.2.1, trivial⟩) rfl fun _ => ?_
  refine ops_val (yld_not rfl) rfl ?_
  refine ops_nil ?_
  refine fin_next rfl ?_
  refine run_cond_f rfl ?_
  refine run_skip ?_
  refine fin_next rfl ?_
  refine run_seq ?_
  refine run_seq ?_
  refine run_region ?_
  refine ops_val (yld_move rfl) rfl ?_
  refine ops_call (few12_c l ad cap hcap hok) rfl pf_nil (fun v _ h => by exact ⟨h.1, trivial⟩) rfl fun ⟨r, hr⟩ => ?_
  dsimp only
  refine ops_val (yld_not rfl) rfl ?_
  refine ops_val (yld_move rfl) rfl ?_
  cases r
  · skip
    refine ops_no rfl rfl rfl rfl ?_
    refine ops_no rfl rfl rfl rfl ?_
    refine ops_val (yld_pick_t rfl rfl) rfl ?_
    refine ops_val (yld_move rfl) rfl ?_
    refine ops_no rfl rfl rfl rfl ?_
    refine ops_no rfl rfl rfl rfl ?_
    refine ops_no rfl rfl rfl rfl ?_
    refine ops_no rfl rfl rfl rfl ?_
    refine ops_val (yld_pick_t rfl rfl) rfl ?_
    refine ops_nil ?_
    refine fin_next rfl ?_
    refine run_cond_t rfl ?_
    refine run_seq ?_
    refine run_region ?_
    refine ops_val (yld_assign rfl) rfl ?_
    refine ops_nil ?_
    refine fin_next rfl ?_
    refine run_ret ?_
    exact ret1 Tryz.results3 () (get_bool rfl rfl) pf_nil (fun _ _ _ => trivial)
  · skip
    refine ops_yes rfl rfl ?_
    refine ops_val (yld_move rfl) rfl ?_
    refine ops_yes rfl rfl ?_
    refine ops_valB (yld_lss rfl rfl) rfl fun r1 hr1 => ?_
    refine ops_val (yld_pick_f rfl rfl) rfl ?_
    refine ops_val (yld_move rfl) rfl ?_
    cases r1
    · skip
      replace hr1 := of_decide_eq_false hr1
      refine ops_yes rfl rfl ?_
      refine ops_val (yld_move rfl) rfl ?_
      refine ops_yes rfl rfl ?_
      refine ops_val (yld_move rfl) rfl ?_
      refine ops_yes rfl rfl ?_
      refine ops_val (yld_lenS Tryz.runUnderlying22 rfl) rfl ?_
      refine ops_yes rfl rfl ?_
      refine ops_valB (yld_gtr rfl rfl) rfl fun r2 hr2 => ?_
      refine ops_val (yld_pick_f rfl rfl) rfl ?_
      refine ops_nil ?_
      refine fin_next rfl ?_
      cases r2
      · skip
        replace hr2 := of_decide_eq_false hr2
        obtain ⟨k, rfl⟩ : ∃ k : Nat, n = (k : Int) := ⟨n.toNat, by omega⟩
        have hl12 := hr rfl
        rcases hP : piecesL l with ⟨p, er⟩
        rcases hA : piecesL (List.take k l) with ⟨a, ef⟩
        rcases hB : piecesL (List.drop k l) with ⟨b, eg⟩
        have PL := parts_law hl12 (by omega) hok hP hA hB
        obtain ⟨hlp, hla, hlb⟩ := PL.len
        refine run_cond_f rfl ?_
        refine run_skip ?_
        refine fin_next rfl ?_
        refine run_seq ?_
        refine run_region ?_
        refine ops_val (yld_move rfl) rfl ?_
        refine ops_call (pieces_e l ad cap hcap hok hP) rfl pf_nil (fun v _ h => by exact ⟨h.1, h.2.1, trivial⟩) rfl fun ⟨⟨ap, cpp⟩, hap⟩ => ?_
        dsimp only
        refine ops_val (yld_move rfl) rfl ?_
        refine ops_val (yld_extract rfl rfl) rfl ?_
        refine ops_val (yld_extract rfl rfl) rfl ?_
        refine ops_val (yld_assign rfl) rfl ?_
        refine ops_val (yld_assign rfl) rfl ?_
        refine ops_nil ?_
        refine fin_next rfl ?_
        refine run_seq ?_
        refine run_region ?_
        refine ops_val (yld_move rfl) rfl ?_
        refine ops_val (yld_move rfl) rfl ?_
        refine ops_val (yld_eq (yld_sliceS (i := 0) (j := k) (kl := .i64) (kh := .i64) Tryz.runUnderlying22 Tryz.sizeOf41 rfl rfl rfl (by omega) (by omega)) (show _ = Value.slice (sad ad cap 0 16) (List.length (List.take k l)) (cap - 0) by rw [List.length_take, Nat.min_eq_left (by omega)]; rfl)) rfl ?_
        refine ops_call (pieces_e (List.take k l) (sad ad cap 0 16) (cap - 0) ⟨by simp; omega, by omega⟩ (fun x hx => hok x (List.mem_of_mem_take hx)) hA) rfl pf_nil (fun v _ h => by exact ⟨(axs_take h.2.1 hcap.1 k), h.2.2.1, trivial⟩) rfl fun ⟨⟨aa, cpa⟩, haa⟩ => ?_
        dsimp only
        refine ops_val (yld_move rfl) rfl ?_
        refine ops_val (yld_extract rfl rfl) rfl ?_
        refine ops_val (yld_extract rfl rfl) rfl ?_
        refine ops_val (yld_assign rfl) rfl ?_
        refine ops_val (yld_assign rfl) rfl ?_
        refine ops_nil ?_
        refine fin_next rfl ?_
        refine run_seq ?_
        refine run_region ?_
        refine ops_val (yld_move rfl) rfl ?_
        refine ops_val (yld_move rfl) rfl ?_
        refine ops_val (yld_eq (yld_sliceS (i := k) (j := l.length) (kl := .i64) (kh := .i64) Tryz.runUnderlying22 Tryz.sizeOf41 rfl rfl rfl (by omega) (by omega)) (show _ = Value.slice (sad ad cap k 16) (List.length (List.drop k l)) (cap - k) by rw [List.length_drop])) rfl ?_
        refine ops_call (pieces_e (List.drop k l) (sad ad cap k 16) (cap - k) ⟨by simp; omega, by omega⟩ (fun x hx => hok x (List.mem_of_mem_drop hx)) hB) rfl pf_nil (fun v _ h => by exact ⟨(axs_drop h.2.2.1 hcap.1 k), h.2.2.2.1, trivial⟩) rfl fun ⟨⟨ab, cpb⟩, hab⟩ => ?_
        dsimp only
        refine ops_val (yld_move rfl) rfl ?_
        refine ops_val (yld_extract rfl rfl) rfl ?_
        refine ops_val (yld_extract rfl rfl) rfl ?_
        refine ops_val (yld_assign rfl) rfl ?_
        refine ops_val (yld_assign rfl) rfl ?_
        refine ops_nil ?_
        refine fin_next rfl ?_
        refine run_seq ?_
        refine run_seq ?_
        refine run_region ?_
        refine ops_val (yld_move rfl) rfl ?_
        refine ops_valB (yld_neq rfl rfl) rfl fun r3 hr3 => ?_
        refine ops_nil ?_
        refine fin_next rfl ?_
        cases r3
        · skip
          replace hr3 := eq_of_bne hr3
          refine run_cond_f rfl ?_
          refine run_skip ?_
          refine fin_next rfl ?_
          refine run_seq ?_
          refine run_seq ?_
          refine run_region ?_
          refine ops_val (yld_move rfl) rfl ?_
          refine ops_valB (yld_neq rfl rfl) rfl fun r4 hr4 => ?_
          refine ops_val (yld_move rfl) rfl ?_
          cases r4
          · skip
            replace hr4 := eq_of_bne hr4
            refine ops_yes rfl rfl ?_
            refine ops_val (yld_move rfl) rfl ?_
            refine ops_yes rfl rfl ?_
            refine ops_valB (yld_neq rfl rfl) rfl fun r5 hr5 => ?_
            refine ops_val (yld_pick_f rfl rfl) rfl ?_
            refine ops_val (yld_move rfl) rfl ?_
            cases r5
            · skip
              replace hr5 := eq_of_bne hr5
              refine ops_yes rfl rfl ?_
              refine ops_val (yld_move rfl) rfl ?_
              refine ops_yes rfl rfl ?_
              refine ops_val (yld_lenS Tryz.runUnderlying25 rfl) rfl ?_
              refine ops_yes rfl rfl ?_
              refine ops_val (yld_move rfl) rfl ?_
              refine ops_yes rfl rfl ?_
              refine ops_val (yld_lenS Tryz.runUnderlying25 rfl) rfl ?_
              refine ops_yes rfl rfl ?_
              refine ops_val (yld_move rfl) rfl ?_
              refine ops_yes rfl rfl ?_
              refine ops_val (yld_lenS Tryz.runUnderlying25 rfl) rfl ?_
              refine ops_yes rfl rfl ?_
              refine ops_val (yld_arith rfl rfl rfl (wrap64 (by omega) (by omega))) rfl ?_
              refine ops_yes rfl rfl ?_
              refine ops_valB (yld_neq rfl rfl) rfl fun r6 hr6 => ?_
              refine ops_val (yld_pick_f rfl rfl) rfl ?_
              refine ops_val (yld_move rfl) rfl ?_
              cases r6
              · skip
                replace hr6 := eq_of_bne hr6
                refine ops_yes rfl rfl ?_
                refine ops_val (yld_move rfl) rfl ?_
                refine ops_yes rfl rfl ?_
                refine ops_call (check_c p ap cpp (by omega) PL.sm) rfl pf_nil (fun v _ h => by exact ⟨h.2.2.1, h.2.2.2.2.1, trivial⟩) rfl fun _ => ?_
                refine ops_yes rfl rfl ?_
                refine ops_valB (yld_neq rfl rfl) rfl fun r7 hr7 => ?_
                refine ops_val (yld_pick_f rfl rfl) rfl ?_
                refine ops_nil ?_
                refine fin_next rfl ?_
                cases r7
                · skip
                  replace hr7 := eq_of_bne hr7
                  refine run_cond_f rfl ?_
                  refine run_skip ?_
                  refine fin_next rfl ?_
                  refine run_seq ?_
                  refine run_seq ?_
                  refine run_region ?_
                  refine ops_val (yld_assign rfl) rfl ?_
                  refine ops_nil ?_
                  refine fin_next rfl ?_
                  refine run_block ?_
                  obtain rfl : er = 0 := by assumption
                  have hpe := PL.eq rfl
                  refine ok_fr [(0, .slice ad (List.length l) cap), (1, .int .i64 (k : Int)), (5, .slice ap (List.length p) cpp), (7, .slice aa (List.length a) cpa), (9, .slice ab (List.length b) cpb), (11, .int .i64 ((0 : Nat) : Int))] ⟨rfl, rfl, rfl, rfl, rfl, rfl, trivial⟩ ?_
                  refine run_loop (ι := {q : Nat // q ≤ p.length}) (fun i => [(0, .slice ad (List.length l) cap), (1, .int .i64 (k : Int)), (5, .slice ap (List.length p) cpp), (7, .slice aa (List.length a) cpa), (9, .slice ab (List.length b) cpb), (11, .int .i64 (i.1 : Int))]) (fun _ => _) (fun _ => _) (fun i => p.length - i.1) ⟨0, by simp⟩ ?_
                  rintro ⟨i, hk⟩
                  refine ok_fr [(0, .slice ad (List.length l) cap), (1, .int .i64 (k : Int)), (5, .slice ap (List.length p) cpp), (7, .slice aa (List.length a) cpa), (9, .slice ab (List.length b) cpb), (11, .int .i64 (i : Int))] ⟨rfl, rfl, rfl, rfl, rfl, rfl, trivial⟩ ?_
                  refine run_seq ?_
                  refine run_seq ?_
                  refine run_region ?_
                  refine ops_val (yld_move rfl) rfl ?_
                  refine ops_val (yld_move rfl) rfl ?_
                  refine ops_val (yld_lenS Tryz.runUnderlying25 rfl) rfl ?_
                  refine ops_valB (yld_lss rfl rfl) rfl fun r8 hr8 => ?_
                  refine ops_nil ?_
                  refine fin_next rfl ?_
                  cases r8
                  · skip
                    replace hr8 := of_decide_eq_false hr8
                    refine run_cond_f rfl ?_
                    refine run_exit rfl ?_
                    refine fin_next rfl ?_
                    refine run_seq ?_
                    refine run_region ?_
                    refine ops_val (yld_assign rfl) rfl ?_
                    refine ops_nil ?_
                    refine fin_next rfl ?_
                    refine run_ret ?_
                    exact ret1 Tryz.results3 () (get_bool rfl rfl) pf_nil (fun _ _ _ => trivial)
                  · skip
                    replace hr8 := of_decide_eq_true hr8
                    have hlx1 : i < List.length p := by omega
                    obtain ⟨x1, hx1⟩ : ∃ y, p[i]? = some y := ⟨_, List.getElem?_eq_getElem hlx1⟩
                    have hmx1 : x1 ∈ p := List.mem_of_getElem? hx1
                    have hrx := PL.rng rfl x1 hmx1
                    refine run_cond_t rfl ?_
                    refine run_skip ?_
                    refine fin_next rfl ?_
                    refine run_seq ?_
                    refine run_block ?_
                    refine run_seq ?_
                    refine run_region ?_
                    refine ops_val (yld_struct strt31 rfl rfl) rfl ?_
                    refine ops_alloc Tryz.zeroValue31 rfl fun b1 => ?_
                    refine ops_store 0 Tryz.sizeOf31 rfl rfl rfl rfl rfl rfl ?_
                    refine ops_nil ?_
                    refine fin_next rfl ?_
                    refine run_seq ?_
                    refine run_seq ?_
                    refine run_region ?_
                    refine ops_val (yld_move rfl) rfl ?_
                    refine ops_val (yld_move rfl) rfl ?_
                    refine ops_val (yld_lenS Tryz.runUnderlying25 rfl) rfl ?_
                    refine ops_valB (yld_lss rfl rfl) rfl fun r9 hr9 => ?_
                    refine ops_nil ?_
                    refine fin_next rfl ?_
                    cases r9
                    · skip
                      replace hr9 := of_decide_eq_false hr9
                      have hplen : p.length = a.length + b.length := by rw [hpe]; simp
                      have hlx2 : (Int.toNat ((i : Int) - (List.length a : Int))) < List.length b := by omega
                      obtain ⟨x2, hx2⟩ : ∃ y, b[(Int.toNat ((i : Int) - (List.length a : Int)))]? = some y := ⟨_, List.getElem?_eq_getElem hlx2⟩
                      have hmx2 : x2 ∈ b := List.mem_of_getElem? hx2
                      have hxe : x1 = shift (k : Int) x2 := by
                        rw [hpe, List.getElem?_append_right (by omega), List.getElem?_map, show i - a.length = (Int.toNat ((i : Int) - (List.length a : Int))) by omega, hx2] at hx1
                        exact (Option.some.inj hx1).symm
                      have hfb := PL.fb rfl x2 hmx2
                      refine run_cond_f rfl ?_
                      refine run_seq ?_
                      refine run_region ?_
                      refine ops_val (yld_move rfl) rfl ?_
                      refine ops_val (yld_move rfl) rfl ?_
                      refine ops_val (yld_move rfl) rfl ?_
                      refine ops_val (yld_lenS Tryz.runUnderlying25 rfl) rfl ?_
                      refine ops_val (yld_arith rfl rfl rfl (wrap64 (by omega) (by omega))) rfl ?_
                      refine ops_val (yld_indexR Tryz.runUnderlying25 Tryz.sizeOf31 rfl rfl (fun v _ h => row_adr (n := 10) Pc.cells_len (by decide) (by exact h.1) hx2) (by omega) (by first | omega | (simp; done))) rfl ?_
                      refine ops_val (yld_loadRS (ad := ab) (us := Pc.cells x2) Tryz.isAgg31 Tryz.sizeOf31 rfl (fun v _ h => by exact h.1) (Pc.cells_len _) (row_cells Pc.cells_len hx2)) rfl ?_
                      refine ops_store 0 Tryz.sizeOf31 rfl rfl rfl rfl rfl rfl ?_
                      refine ops_nil ?_
                      refine fin_next rfl ?_
                      refine run_region ?_
                      refine ops_val (yld_field Tryz.runUnderlying31 rfl rfl rfl Tryz.sizeOf3) rfl ?_
                      refine ops_val (yld_load 0 Tryz.isAgg3 rfl rfl rfl) rfl ?_
                      refine ops_val (yld_move rfl) rfl ?_
                      refine ops_val (yld_arith rfl rfl rfl (wrap64 (by omega) (by omega))) rfl ?_
                      refine ops_val (yld_field Tryz.runUnderlying31 rfl rfl rfl Tryz.sizeOf3) rfl ?_
                      refine ops_store 0 Tryz.sizeOf3 rfl rfl rfl rfl rfl rfl ?_
                      refine ops_nil ?_
                      refine fin_next rfl ?_
                      refine run_seq ?_
                      refine run_draw' (by kernel_rfl) ?_
                      refine any_take 0 rfl (by kernel_rfl) (by kernel_rfl) (by kernel_rfl) (yld_move rfl) rfl (fun _ a b => ⟨a, b⟩) ?_
                      refine any_take 1 rfl (by kernel_rfl) (by kernel_rfl) (by kernel_rfl) (yld_move rfl) rfl (fun _ a b => ⟨a, b⟩) ?_
                      refine any_take 2 rfl (by kernel_rfl) (by kernel_rfl) (by kernel_rfl) (yld_indexR Tryz.runUnderlying25 Tryz.sizeOf31 rfl rfl (fun v _ h => row_adr (n := 10) Pc.cells_len (by decide) (by exact h.2.2.1) hx1) (by omega) (by first | omega | (simp; done))) rfl (fun _ a b => ⟨a, b⟩) ?_
                      refine any_take 3 rfl (by kernel_rfl) (by kernel_rfl) (by kernel_rfl) (yld_loadRS (ad := ap) (us := Pc.cells x1) Tryz.isAgg31 Tryz.sizeOf31 rfl (fun v _ h => by exact h.2.2.1) (Pc.cells_len _) (row_cells Pc.cells_len hx1)) rfl (fun _ a b => ⟨a, b⟩) ?_
                      refine any_take 4 rfl (by kernel_rfl) (by kernel_rfl) (by kernel_rfl) (yld_loadS 0 Tryz.isAgg31 Tryz.sizeOf31 rfl rfl rfl) rfl (fun _ a b => ⟨a, b⟩) ?_
                      refine any_takeB 5 rfl (by kernel_rfl) (by kernel_rfl) (by kernel_rfl) (yld_neqPc (p := x1) (q := (Pc.mk (Pc.kind x2) (Pc.a x2) (Pc.b x2) (Pc.c x2) (Pc.r x2) (Pc.s x2) (Pc.t x2) (Pc.lo x2) (Pc.hi x2) ((Pc.frm x2) + (k : Int)))) rfl rfl) rfl (fun _ a b => ⟨a, b⟩) fun r10 hr10 => ?_
                      refine any_take 6 rfl (by kernel_rfl) (by kernel_rfl) (by kernel_rfl) (yld_move rfl) rfl (fun _ a b => ⟨a, b⟩) ?_
                      cases r10
                      · skip
                        replace hr10 := of_decide_eq_false hr10
                        refine any_takeY 7 rfl (by kernel_rfl) (by kernel_rfl) (by kernel_rfl) rfl rfl (yld_move rfl) rfl (fun _ a b => ⟨a, b⟩) ?_
                        refine any_takeY 8 rfl (by kernel_rfl) (by kernel_rfl) (by kernel_rfl) rfl rfl (yld_move rfl) rfl (fun _ a b => ⟨a, b⟩) ?_
                        refine any_takeY 9 rfl (by kernel_rfl) (by kernel_rfl) (by kernel_rfl) rfl rfl (yld_indexR Tryz.runUnderlying25 Tryz.sizeOf31 rfl rfl (fun v _ h => row_adr (n := 10) Pc.cells_len (by decide) (by exact h.2.2.1) hx1) (by omega) (by first | omega | (simp; done))) rfl (fun _ a b => ⟨a, b⟩) ?_
                        refine any_takeY 10 rfl (by kernel_rfl) (by kernel_rfl) (by kernel_rfl) rfl rfl (yld_fieldR Tryz.runUnderlying31 rfl rfl rfl Tryz.sizeOf3) rfl (fun _ a b => ⟨a, b⟩) ?_
                        refine any_takeY 11 rfl (by kernel_rfl) (by kernel_rfl) (by kernel_rfl) rfl rfl (yld_loadR (ad := ap) Tryz.isAgg3 rfl (fun v _ h => by exact h.2.2.1) (row_cells Pc.cells_len hx1 9 _ rfl)) rfl (fun _ a b => ⟨a, b⟩) ?_
                        refine any_takeYB 12 rfl (by kernel_rfl) (by kernel_rfl) (by kernel_rfl) rfl rfl (yld_lss rfl rfl) rfl (fun _ a b => ⟨a, b⟩) fun r11 hr11 => ?_
                        refine any_take 13 rfl (by kernel_rfl) (by kernel_rfl) (by kernel_rfl) (yld_pick_f rfl rfl) rfl (fun _ a b => ⟨a, b⟩) ?_
                        refine any_take 14 rfl (by kernel_rfl) (by kernel_rfl) (by kernel_rfl) (yld_move rfl) rfl (fun _ a b => ⟨a, b⟩) ?_
                        cases r11
                        · skip
                          replace hr11 := of_decide_eq_false hr11
                          refine any_takeY 15 rfl (by kernel_rfl) (by kernel_rfl) (by kernel_rfl) rfl rfl (yld_move rfl) rfl (fun _ a b => ⟨a, b⟩) ?_
                          refine any_takeY 16 rfl (by kernel_rfl) (by kernel_rfl) (by kernel_rfl) rfl rfl (yld_move rfl) rfl (fun _ a b => ⟨a, b⟩) ?_
                          refine any_takeY 17 rfl (by kernel_rfl) (by kernel_rfl) (by kernel_rfl) rfl rfl (yld_indexR Tryz.runUnderlying25 Tryz.sizeOf31 rfl rfl (fun v _ h => row_adr (n := 10) Pc.cells_len (by decide) (by exact h.2.2.1) hx1) (by omega) (by first | omega | (simp; done))) rfl (fun _ a b => ⟨a, b⟩) ?_
                          refine any_takeY 18 rfl (by kernel_rfl) (by kernel_rfl) (by kernel_rfl) rfl rfl (yld_fieldR Tryz.runUnderlying31 rfl rfl rfl Tryz.sizeOf3) rfl (fun _ a b => ⟨a, b⟩) ?_
                          refine any_takeY 19 rfl (by kernel_rfl) (by kernel_rfl) (by kernel_rfl) rfl rfl (yld_loadR (ad := ap) Tryz.isAgg3 rfl (fun v _ h => by exact h.2.2.1) (row_cells Pc.cells_len hx1 9 _ rfl)) rfl (fun _ a b => ⟨a, b⟩) ?_
                          refine any_takeY 20 rfl (by kernel_rfl) (by kernel_rfl) (by kernel_rfl) rfl rfl (yld_move rfl) rfl (fun _ a b => ⟨a, b⟩) ?_
                          refine any_takeY 21 rfl (by kernel_rfl) (by kernel_rfl) (by kernel_rfl) rfl rfl (yld_lenS Tryz.runUnderlying22 rfl) rfl (fun _ a b => ⟨a, b⟩) ?_
                          refine any_takeYB 22 rfl (by kernel_rfl) (by kernel_rfl) (by kernel_rfl) rfl rfl (yld_geq rfl rfl) rfl (fun _ a b => ⟨a, b⟩) fun r12 hr12 => ?_
                          refine any_take 23 rfl (by kernel_rfl) (by kernel_rfl) (by kernel_rfl) (yld_pick_f rfl rfl) rfl (fun _ a b => ⟨a, b⟩) ?_
                          refine any_take 24 rfl (by kernel_rfl) (by kernel_rfl) (by kernel_rfl) (yld_move rfl) rfl (fun _ a b => ⟨a, b⟩) ?_
                          cases r12
                          · skip
                            replace hr12 := of_decide_eq_false hr12
                            refine any_takeY 25 rfl (by kernel_rfl) (by kernel_rfl) (by kernel_rfl) rfl rfl (yld_move rfl) rfl (fun _ a b => ⟨a, b⟩) ?_
                            refine any_takeYB 26 rfl (by kernel_rfl) (by kernel_rfl) (by kernel_rfl) rfl rfl (yld_gtr rfl rfl) rfl (fun _ a b => ⟨a, b⟩) fun r13 hr13 => ?_
                            refine any_takeY 27 rfl (by kernel_rfl) (by kernel_rfl) (by kernel_rfl) rfl rfl (yld_move rfl) rfl (fun _ a b => ⟨a, b⟩) ?_
                            cases r13
                            · skip
                              replace hr13 := of_decide_eq_false hr13
                              refine any_no 28 rfl (by kernel_rfl) (by kernel_rfl) (by kernel_rfl) rfl rfl rfl rfl (fun _ a b => ⟨a, b⟩) ?_
                              refine any_no 29 rfl (by kernel_rfl) (by kernel_rfl) (by kernel_rfl) rfl rfl rfl rfl (fun _ a b => ⟨a, b⟩) ?_
                              refine any_no 30 rfl (by kernel_rfl) (by kernel_rfl) (by kernel_rfl) rfl rfl rfl rfl (fun _ a b => ⟨a, b⟩) ?_
                              refine any_no 31 rfl (by kernel_rfl) (by kernel_rfl) (by kernel_rfl) rfl rfl rfl rfl (fun _ a b => ⟨a, b⟩) ?_
                              refine any_no 32 rfl (by kernel_rfl) (by kernel_rfl) (by kernel_rfl) rfl rfl rfl rfl (fun _ a b => ⟨a, b⟩) ?_
                              refine any_no 33 rfl (by kernel_rfl) (by kernel_rfl) (by kernel_rfl) rfl rfl rfl rfl (fun _ a b => ⟨a, b⟩) ?_
                              refine any_no 34 rfl (by kernel_rfl) (by kernel_rfl) (by kernel_rfl) rfl rfl rfl rfl (fun _ a b => ⟨a, b⟩) ?_
                              refine any_no 35 rfl (by kernel_rfl) (by kernel_rfl) (by kernel_rfl) rfl rfl rfl rfl (fun _ a b => ⟨a, b⟩) ?_
                              refine any_no 36 rfl (by kernel_rfl) (by kernel_rfl) (by kernel_rfl) rfl rfl rfl rfl (fun _ a b => ⟨a, b⟩) ?_
                              refine any_no 37 rfl (by kernel_rfl) (by kernel_rfl) (by kernel_rfl) rfl rfl rfl rfl (fun _ a b => ⟨a, b⟩) ?_
                              refine any_no 38 rfl (by kernel_rfl) (by kernel_rfl) (by kernel_rfl) rfl rfl rfl rfl (fun _ a b => ⟨a, b⟩) ?_
                              refine any_no 39 rfl (by kernel_rfl) (by kernel_rfl) (by kernel_rfl) rfl rfl rfl rfl (fun _ a b => ⟨a, b⟩) ?_
                              refine any_takeY 40 rfl (by kernel_rfl) (by kernel_rfl) (by kernel_rfl) rfl rfl (yld_pick_f rfl rfl) rfl (fun _ a b => ⟨a, b⟩) ?_
                              refine any_take 41 rfl (by kernel_rfl) (by kernel_rfl) (by kernel_rfl) (yld_pick_f rfl rfl) rfl (fun _ a b => ⟨a, b⟩) ?_
                              refine any_done (by kernel_rfl) ?_
                              refine fin_next rfl ?_
                              refine run_cond_f rfl ?_
                              refine run_skip ?_
                              refine fin_next rfl ?_
                              refine run_region ?_
                              refine ops_val (yld_move rfl) rfl ?_
                              refine ops_val (yld_arith rfl rfl rfl (wrap64 (by omega) (by omega))) rfl ?_
                              refine ops_val (yld_assign rfl) rfl ?_
                              refine ops_nil ?_
                              refine fin_inv rfl ?_
                              exact ok_again ⟨i + 1, hlx1⟩ (by simp; omega) ⟨rfl, rfl, rfl, rfl, rfl, rfl, trivial⟩ (@List.perm_append_comm _ [_] _) (fun _ _ h => h)
                            · skip
                              replace hr13 := of_decide_eq_true hr13
                              have hlx3 : (Int.toNat ((i : Int) - 1)) < List.length p := by omega
                              obtain ⟨x3, hx3⟩ : ∃ y, p[(Int.toNat ((i : Int) - 1))]? = some y := ⟨_, List.getElem?_eq_getElem hlx3⟩
                              have hmx3 : x3 ∈ p := List.mem_of_getElem? hx3
                              have hmono : x3.frm ≤ x1.frm := by
                                have hq := List.pairwise_iff_getElem.1 (PL.mono rfl) (Int.toNat ((i : Int) - 1)) i (by omega) (by omega) (by omega)
                                rw [List.getElem?_eq_getElem (by omega)] at hx3 hx1
                                rw [Option.some.inj hx3, Option.some.inj hx1] at hq
                                exact hq
                              refine any_takeY 28 rfl (by kernel_rfl) (by kernel_rfl) (by kernel_rfl) rfl rfl (yld_move rfl) rfl (fun _ a b => ⟨a, b⟩) ?_
                              refine any_takeY 29 rfl (by kernel_rfl) (by kernel_rfl) (by kernel_rfl) rfl rfl (yld_move rfl) rfl (fun _ a b => ⟨a, b⟩) ?_
                              refine any_takeY 30 rfl (by kernel_rfl) (by kernel_rfl) (by kernel_rfl) rfl rfl (yld_indexR Tryz.runUnderlying25 Tryz.sizeOf31 rfl rfl (fun v _ h => row_adr (n := 10) Pc.cells_len (by decide) (by exact h.2.2.1) hx1) (by omega) (by first | omega | (simp; done))) rfl (fun _ a b => ⟨a, b⟩) ?_
                              refine any_takeY 31 rfl (by kernel_rfl) (by kernel_rfl) (by kernel_rfl) rfl rfl (yld_fieldR Tryz.runUnderlying31 rfl rfl rfl Tryz.sizeOf3) rfl (fun _ a b => ⟨a, b⟩) ?_
                              refine any_takeY 32 rfl (by kernel_rfl) (by kernel_rfl) (by kernel_rfl) rfl rfl (yld_loadR (ad := ap) Tryz.isAgg3 rfl (fun v _ h => by exact h.2.2.1) (row_cells Pc.cells_len hx1 9 _ rfl)) rfl (fun _ a b => ⟨a, b⟩) ?_
                              refine any_takeY 33 rfl (by kernel_rfl) (by kernel_rfl) (by kernel_rfl) rfl rfl (yld_move rfl) rfl (fun _ a b => ⟨a, b⟩) ?_
                              refine any_takeY 34 rfl (by kernel_rfl) (by kernel_rfl) (by kernel_rfl) rfl rfl (yld_move rfl) rfl (fun _ a b => ⟨a, b⟩) ?_
                              refine any_takeY 35 rfl (by kernel_rfl) (by kernel_rfl) (by kernel_rfl) rfl rfl (yld_arith rfl rfl rfl (wrap64 (by omega) (by omega))) rfl (fun _ a b => ⟨a, b⟩) ?_
                              refine any_takeY 36 rfl (by kernel_rfl) (by kernel_rfl) (by kernel_rfl) rfl rfl (yld_indexR Tryz.runUnderlying25 Tryz.sizeOf31 rfl rfl (fun v _ h => row_adr (n := 10) Pc.cells_len (by decide) (by exact h.2.2.1) hx3) (by omega) (by first | omega | (simp; done))) rfl (fun _ a b => ⟨a, b⟩) ?_
                              refine any_takeY 37 rfl (by kernel_rfl) (by kernel_rfl) (by kernel_rfl) rfl rfl (yld_fieldR Tryz.runUnderlying31 rfl rfl rfl Tryz.sizeOf3) rfl (fun _ a b => ⟨a, b⟩) ?_
                              refine any_takeY 38 rfl (by kernel_rfl) (by kernel_rfl) (by kernel_rfl) rfl rfl (yld_loadR (ad := ap) Tryz.isAgg3 rfl (fun v _ h => by exact h.2.2.1) (row_cells Pc.cells_len hx3 9 _ rfl)) rfl (fun _ a b => ⟨a, b⟩) ?_
                              refine any_takeYB 39 rfl (by kernel_rfl) (by kernel_rfl) (by kernel_rfl) rfl rfl (yld_lss rfl rfl) rfl (fun _ a b => ⟨a, b⟩) fun r14 hr14 => ?_
                              refine any_takeY 40 rfl (by kernel_rfl) (by kernel_rfl) (by kernel_rfl) rfl rfl (yld_pick_t rfl rfl) rfl (fun _ a b => ⟨a, b⟩) ?_
                              refine any_take 41 rfl (by kernel_rfl) (by kernel_rfl) (by kernel_rfl) (yld_pick_f rfl rfl) rfl (fun _ a b => ⟨a, b⟩) ?_
                              refine any_done (by kernel_rfl) ?_
                              refine fin_next rfl ?_
                              cases r14
                              · skip
                                replace hr14 := of_decide_eq_false hr14
                                refine run_cond_f rfl ?_
                                refine run_skip ?_
                                refine fin_next rfl ?_
                                refine run_region ?_
                                refine ops_val (yld_move rfl) rfl ?_
                                refine ops_val (yld_arith rfl rfl rfl (wrap64 (by omega) (by omega))) rfl ?_
                                refine ops_val (yld_assign rfl) rfl ?_
                                refine ops_nil ?_
                                refine fin_inv rfl ?_
                                exact ok_again ⟨i + 1, hlx1⟩ (by simp; omega) ⟨rfl, rfl, rfl, rfl, rfl, rfl, trivial⟩ (@List.perm_append_comm _ [_] _) (fun _ _ h => h)
                              · skip
                                replace hr14 := of_decide_eq_true hr14
                                exfalso; omega
                          · skip
                            replace hr12 := of_decide_eq_true hr12
                            exfalso; omega
                        · skip
                          replace hr11 := of_decide_eq_true hr11
                          exfalso; omega
                      · skip
                        replace hr10 := of_decide_eq_true hr10
                        exact absurd hxe hr10
                    · skip
                      replace hr9 := of_decide_eq_true hr9
                      have hlx4 : i < List.length a := by omega
                      obtain ⟨x4, hx4⟩ : ∃ y, a[i]? = some y := ⟨_, List.getElem?_eq_getElem hlx4⟩
                      have hmx4 : x4 ∈ a := List.mem_of_getElem? hx4
                      have hxe : x1 = x4 := by
                        rw [hpe, List.getElem?_append_left (by omega), hx4] at hx1
                        exact (Option.some.inj hx1).symm
                      refine run_cond_t rfl ?_
                      refine run_region ?_
                      refine ops_val (yld_move rfl) rfl ?_
                      refine ops_val (yld_move rfl) rfl ?_
                      refine ops_val (yld_indexR Tryz.runUnderlying25 Tryz.sizeOf31 rfl rfl (fun v _ h => row_adr (n := 10) Pc.cells_len (by decide) (by exact h.2.1) hx4) (by omega) (by first | omega | (simp; done))) rfl ?_
                      refine ops_val (yld_loadRS (ad := aa) (us := Pc.cells x4) Tryz.isAgg31 Tryz.sizeOf31 rfl (fun v _ h => by exact h.2.1) (Pc.cells_len _) (row_cells Pc.cells_len hx4)) rfl ?_
                      refine ops_store 0 Tryz.sizeOf31 rfl rfl rfl rfl rfl rfl ?_
                      refine ops_nil ?_
                      refine fin_next rfl ?_
                      refine run_seq ?_
                      refine run_draw' (by kernel_rfl) ?_
                      refine any_take 0 rfl (by kernel_rfl) (by kernel_rfl) (by kernel_rfl) (yld_move rfl) rfl (fun _ a b => ⟨a, b⟩) ?_
                      refine any_take 1 rfl (by kernel_rfl) (by kernel_rfl) (by kernel_rfl) (yld_move rfl) rfl (fun _ a b => ⟨a, b⟩) ?_
                      refine any_take 2 rfl (by kernel_rfl) (by kernel_rfl) (by kernel_rfl) (yld_indexR Tryz.runUnderlying25 Tryz.sizeOf31 rfl rfl (fun v _ h => row_adr (n := 10) Pc.cells_len (by decide) (by exact h.2.2.1) hx1) (by omega) (by first | omega | (simp; done))) rfl (fun _ a b => ⟨a, b⟩) ?_
                      refine any_take 3 rfl (by kernel_rfl) (by kernel_rfl) (by kernel_rfl) (yld_loadRS (ad := ap) (us := Pc.cells x1) Tryz.isAgg31 Tryz.sizeOf31 rfl (fun v _ h => by exact h.2.2.1) (Pc.cells_len _) (row_cells Pc.cells_len hx1)) rfl (fun _ a b => ⟨a, b⟩) ?_
                      refine any_take 4 rfl (by kernel_rfl) (by kernel_rfl) (by kernel_rfl) (yld_loadS 0 Tryz.isAgg31 Tryz.sizeOf31 rfl rfl rfl) rfl (fun _ a b => ⟨a, b⟩) ?_
                      refine any_takeB 5 rfl (by kernel_rfl) (by kernel_rfl) (by kernel_rfl) (yld_neqPc (p := x1) (q := x4) rfl rfl) rfl (fun _ a b => ⟨a, b⟩) fun r15 hr15 => ?_
                      refine any_take 6 rfl (by kernel_rfl) (by kernel_rfl) (by kernel_rfl) (yld_move rfl) rfl (fun _ a b => ⟨a, b⟩) ?_
                      cases r15
                      · skip
                        replace hr15 := of_decide_eq_false hr15
                        refine any_takeY 7 rfl (by kernel_rfl) (by kernel_rfl) (by kernel_rfl) rfl rfl (yld_move rfl) rfl (fun _ a b => ⟨a, b⟩) ?_
                        refine any_takeY 8 rfl (by kernel_rfl) (by kernel_rfl) (by kernel_rfl) rfl rfl (yld_move rfl) rfl (fun _ a b => ⟨a, b⟩) ?_
                        refine any_takeY 9 rfl (by kernel_rfl) (by kernel_rfl) (by kernel_rfl) rfl rfl (yld_indexR Tryz.runUnderlying25 Tryz.sizeOf31 rfl rfl (fun v _ h => row_adr (n := 10) Pc.cells_len (by decide) (by exact h.2.2.1) hx1) (by omega) (by first | omega | (simp; done))) rfl (fun _ a b => ⟨a, b⟩) ?_
                        refine any_takeY 10 rfl (by kernel_rfl) (by kernel_rfl) (by kernel_rfl) rfl rfl (yld_fieldR Tryz.runUnderlying31 rfl rfl rfl Tryz.sizeOf3) rfl (fun _ a b => ⟨a, b⟩) ?_
                        refine any_takeY 11 rfl (by kernel_rfl) (by kernel_rfl) (by kernel_rfl) rfl rfl (yld_loadR (ad := ap) Tryz.isAgg3 rfl (fun v _ h => by exact h.2.2.1) (row_cells Pc.cells_len hx1 9 _ rfl)) rfl (fun _ a b => ⟨a, b⟩) ?_
                        refine any_takeYB 12 rfl (by kernel_rfl) (by kernel_rfl) (by kernel_rfl) rfl rfl (yld_lss rfl rfl) rfl (fun _ a b => ⟨a, b⟩) fun r16 hr16 => ?_
                        refine any_take 13 rfl (by kernel_rfl) (by kernel_rfl) (by kernel_rfl) (yld_pick_f rfl rfl) rfl (fun _ a b => ⟨a, b⟩) ?_
                        refine any_take 14 rfl (by kernel_rfl) (by kernel_rfl) (by kernel_rfl) (yld_move rfl) rfl (fun _ a b => ⟨a, b⟩) ?_
                        cases r16
                        · skip
                          replace hr16 := of_decide_eq_false hr16
                          refine any_takeY 15 rfl (by kernel_rfl) (by kernel_rfl) (by kernel_rfl) rfl rfl (yld_move rfl) rfl (fun _ a b => ⟨a, b⟩) ?_
                          refine any_takeY 16 rfl (by kernel_rfl) (by kernel_rfl) (by kernel_rfl) rfl rfl (yld_move rfl) rfl (fun _ a b => ⟨a, b⟩) ?_
                          refine any_takeY 17 rfl (by kernel_rfl) (by kernel_rfl) (by kernel_rfl) rfl rfl (yld_indexR Tryz.runUnderlying25 Tryz.sizeOf31 rfl rfl (fun v _ h => row_adr (n := 10) Pc.cells_len (by decide) (by exact h.2.2.1) hx1) (by omega) (by first | omega | (simp; done))) rfl (fun _ a b => ⟨a, b⟩) ?_
                          refine any_takeY 18 rfl (by kernel_rfl) (by kernel_rfl) (by kernel_rfl) rfl rfl (yld_fieldR Tryz.runUnderlying31 rfl rfl rfl Tryz.sizeOf3) rfl (fun _ a b => ⟨a, b⟩) ?_
                          refine any_takeY 19 rfl (by kernel_rfl) (by kernel_rfl) (by kernel_rfl) rfl rfl (yld_loadR (ad := ap) Tryz.isAgg3 rfl (fun v _ h => by exact h.2.2.1) (row_cells Pc.cells_len hx1 9 _ rfl)) rfl (fun _ a b => ⟨a, b⟩) ?_
                          refine any_takeY 20 rfl (by kernel_rfl) (by kernel_rfl) (by kernel_rfl) rfl rfl (yld_move rfl) rfl (fun _ a b => ⟨a, b⟩) ?_
                          refine any_takeY 21 rfl (by kernel_rfl) (by kernel_rfl) (by kernel_rfl) rfl rfl (yld_lenS Tryz.runUnderlying22 rfl) rfl (fun _ a b => ⟨a, b⟩) ?_
                          refine any_takeYB 22 rfl (by kernel_rfl) (by kernel_rfl) (by kernel_rfl) rfl rfl (yld_geq rfl rfl) rfl (fun _ a b => ⟨a, b⟩) fun r17 hr17 => ?_
                          refine any_take 23 rfl (by kernel_rfl) (by kernel_rfl) (by kernel_rfl) (yld_pick_f rfl rfl) rfl (fun _ a b => ⟨a, b⟩) ?_
                          refine any_take 24 rfl (by kernel_rfl) (by kernel_rfl) (by kernel_rfl) (yld_move rfl) rfl (fun _ a b => ⟨a, b⟩) ?_
                          cases r17
                          · skip
                            replace hr17 := of_decide_eq_false hr17
                            refine any_takeY 25 rfl (by kernel_rfl) (by kernel_rfl) (by kernel_rfl) rfl rfl (yld_move rfl) rfl (fun _ a b => ⟨a, b⟩) ?_
                            refine any_takeYB 26 rfl (by kernel_rfl) (by kernel_rfl) (by kernel_rfl) rfl rfl (yld_gtr rfl rfl) rfl (fun _ a b => ⟨a, b⟩) fun r18 hr18 => ?_
                            refine any_takeY 27 rfl (by kernel_rfl) (by kernel_rfl) (by kernel_rfl) rfl rfl (yld_move rfl) rfl (fun _ a b => ⟨a, b⟩) ?_
                            cases r18
                            · skip
                              replace hr18 := of_decide_eq_false hr18
                              refine any_no 28 rfl (by kernel_rfl) (by kernel_rfl) (by kernel_rfl) rfl rfl rfl rfl (fun _ a b => ⟨a, b⟩) ?_
                              refine any_no 29 rfl (by kernel_rfl) (by kernel_rfl) (by kernel_rfl) rfl rfl rfl rfl (fun _ a b => ⟨a, b⟩) ?_
                              refine any_no 30 rfl (by kernel_rfl) (by kernel_rfl) (by kernel_rfl) rfl rfl rfl rfl (fun _ a b => ⟨a, b⟩) ?_
                              refine any_no 31 rfl (by kernel_rfl) (by kernel_rfl) (by kernel_rfl) rfl rfl rfl rfl (fun _ a b => ⟨a, b⟩) ?_
                              refine any_no 32 rfl (by kernel_rfl) (by kernel_rfl) (by kernel_rfl) rfl rfl rfl rfl (fun _ a b => ⟨a, b⟩) ?_
                              refine any_no 33 rfl (by kernel_rfl) (by kernel_rfl) (by kernel_rfl) rfl rfl rfl rfl (fun _ a b => ⟨a, b⟩) ?_
                              refine any_no 34 rfl (by kernel_rfl) (by kernel_rfl) (by kernel_rfl) rfl rfl rfl rfl (fun _ a b => ⟨a, b⟩) ?_
                              refine any_no 35 rfl (by kernel_rfl) (by kernel_rfl) (by kernel_rfl) rfl rfl rfl rfl (fun _ a b => ⟨a, b⟩) ?_
                              refine any_no 36 rfl (by kernel_rfl) (by kernel_rfl) (by kernel_rfl) rfl rfl rfl rfl (fun _ a b => ⟨a, b⟩) ?_
                              refine any_no 37 rfl (by kernel_rfl) (by kernel_rfl) (by kernel_rfl) rfl rfl rfl rfl (fun _ a b => ⟨a, b⟩) ?_
                              refine any_no 38 rfl (by kernel_rfl) (by kernel_rfl) (by kernel_rfl) rfl rfl rfl rfl (fun _ a b => ⟨a, b⟩) ?_
                              refine any_no 39 rfl (by kernel_rfl) (by kernel_rfl) (by kernel_rfl) rfl rfl rfl rfl (fun _ a b => ⟨a, b⟩) ?_
                              refine any_takeY 40 rfl (by kernel_rfl) (by kernel_rfl) (by kernel_rfl) rfl rfl (yld_pick_f rfl rfl) rfl (fun _ a b => ⟨a, b⟩) ?_
                              refine any_take 41 rfl (by kernel_rfl) (by kernel_rfl) (by kernel_rfl) (yld_pick_f rfl rfl) rfl (fun _ a b => ⟨a, b⟩) ?_
                              refine any_done (by kernel_rfl) ?_
                              refine fin_next rfl ?_
                              refine run_cond_f rfl ?_
                              refine run_skip ?_
                              refine fin_next rfl ?_
                              refine run_region ?_
                              refine ops_val (yld_move rfl) rfl ?_
                              refine ops_val (yld_arith rfl rfl rfl (wrap64 (by omega) (by omega))) rfl ?_
                              refine ops_val (yld_assign rfl) rfl ?_
                              refine ops_nil ?_
                              refine fin_inv rfl ?_
                              exact ok_again ⟨i + 1, hlx1⟩ (by simp; omega) ⟨rfl, rfl, rfl, rfl, rfl, rfl, trivial⟩ (@List.perm_append_comm _ [_] _) (fun _ _ h => h)
                            · skip
                              replace hr18 := of_decide_eq_true hr18
                              have hlx5 : (Int.toNat ((i : Int) - 1)) < List.length p := by omega
                              obtain ⟨x5, hx5⟩ : ∃ y, p[(Int.toNat ((i : Int) - 1))]? = some y := ⟨_, List.getElem?_eq_getElem hlx5⟩
                              have hmx5 : x5 ∈ p := List.mem_of_getElem? hx5
                              have hmono : x5.frm ≤ x1.frm := by
                                have hq := List.pairwise_iff_getElem.1 (PL.mono rfl) (Int.toNat ((i : Int) - 1)) i (by omega) (by omega) (by omega)
                                rw [List.getElem?_eq_getElem (by omega)] at hx5 hx1
                                rw [Option.some.inj hx5, Option.some.inj hx1] at hq
                                exact hq
                              refine any_takeY 28 rfl (by kernel_rfl) (by kernel_rfl) (by kernel_rfl) rfl rfl (yld_move rfl) rfl (fun _ a b => ⟨a, b⟩) ?_
                              refine any_takeY 29 rfl (by kernel_rfl) (by kernel_rfl) (by kernel_rfl) rfl rfl (yld_move rfl) rfl (fun _ a b => ⟨a, b⟩) ?_
                              refine any_takeY 30 rfl (by kernel_rfl) (by kernel_rfl) (by kernel_rfl) rfl rfl (yld_indexR Tryz.runUnderlying25 Tryz.sizeOf31 rfl rfl (fun v _ h => row_adr (n := 10) Pc.cells_len (by decide) (by exact h.2.2.1) hx1) (by omega) (by first | omega | (simp; done))) rfl (fun _ a b => ⟨a, b⟩) ?_
                              refine any_takeY 31 rfl (by kernel_rfl) (by kernel_rfl) (by kernel_rfl) rfl rfl (yld_fieldR Tryz.runUnderlying31 rfl rfl rfl Tryz.sizeOf3) rfl (fun _ a b => ⟨a, b⟩) ?_
                              refine any_takeY 32 rfl (by kernel_rfl) (by kernel_rfl) (by kernel_rfl) rfl rfl (yld_loadR (ad := ap) Tryz.isAgg3 rfl (fun v _ h => by exact h.2.2.1) (row_cells Pc.cells_len hx1 9 _ rfl)) rfl (fun _ a b => ⟨a, b⟩) ?_
                              refine any_takeY 33 rfl (by kernel_rfl) (by kernel_rfl) (by kernel_rfl) rfl rfl (yld_move rfl) rfl (fun _ a b => ⟨a, b⟩) ?_
                              refine any_takeY 34 rfl (by kernel_rfl) (by kernel_rfl) (by kernel_rfl) rfl rfl (yld_move rfl) rfl (fun _ a b => ⟨a, b⟩) ?_
                              refine any_takeY 35 rfl (by kernel_rfl) (by kernel_rfl) (by kernel_rfl) rfl rfl (yld_arith rfl rfl rfl (wrap64 (by omega) (by omega))) rfl (fun _ a b => ⟨a, b⟩) ?_
                              refine any_takeY 36 rfl (by kernel_rfl) (by kernel_rfl) (by kernel_rfl) rfl rfl (yld_indexR Tryz.runUnderlying25 Tryz.sizeOf31 rfl rfl (fun v _ h => row_adr (n := 10) Pc.cells_len (by decide) (by exact h.2.2.1) hx5) (by omega) (by first | omega | (simp; done))) rfl (fun _ a b => ⟨a, b⟩) ?_
                              refine any_takeY 37 rfl (by kernel_rfl) (by kernel_rfl) (by kernel_rfl) rfl rfl (yld_fieldR Tryz.runUnderlying31 rfl rfl rfl Tryz.sizeOf3) rfl (fun _ a b => ⟨a, b⟩) ?_
                              refine any_takeY 38 rfl (by kernel_rfl) (by kernel_rfl) (by kernel_rfl) rfl rfl (yld_loadR (ad := ap) Tryz.isAgg3 rfl (fun v _ h => by exact h.2.2.1) (row_cells Pc.cells_len hx5 9 _ rfl)) rfl (fun _ a b => ⟨a, b⟩) ?_
                              refine any_takeYB 39 rfl (by kernel_rfl) (by kernel_rfl) (by kernel_rfl) rfl rfl (yld_lss rfl rfl) rfl (fun _ a b => ⟨a, b⟩) fun r19 hr19 => ?_
                              refine any_takeY 40 rfl (by kernel_rfl) (by kernel_rfl) (by kernel_rfl) rfl rfl (yld_pick_t rfl rfl) rfl (fun _ a b => ⟨a, b⟩) ?_
                              refine any_take 41 rfl (by kernel_rfl) (by kernel_rfl) (by kernel_rfl) (yld_pick_f rfl rfl) rfl (fun _ a b => ⟨a, b⟩) ?_
                              refine any_done (by kernel_rfl) ?_
                              refine fin_next rfl ?_
                              cases r19
                              · skip
                                replace hr19 := of_decide_eq_false hr19
                                refine run_cond_f rfl ?_
                                refine run_skip ?_
                                refine fin_next rfl ?_
                                refine run_region ?_
                                refine ops_val (yld_move rfl) rfl ?_
                                refine ops_val (yld_arith rfl rfl rfl (wrap64 (by omega) (by omega))) rfl ?_
                                refine ops_val (yld_assign rfl) rfl ?_
                                refine ops_nil ?_
                                refine fin_inv rfl ?_
                                exact ok_again ⟨i + 1, hlx1⟩ (by simp; omega) ⟨rfl, rfl, rfl, rfl, rfl, rfl, trivial⟩ (@List.perm_append_comm _ [_] _) (fun _ _ h => h)
                              · skip
                                replace hr19 := of_decide_eq_true hr19
                                exfalso; omega
                          · skip
                            replace hr17 := of_decide_eq_true hr17
                            exfalso; omega
                        · skip
                          replace hr16 := of_decide_eq_true hr16
                          exfalso; omega
                      · skip
                        replace hr15 := of_decide_eq_true hr15
                        exact absurd hxe hr15
                · skip
                  replace hr7 := ne_of_bne hr7
                  exact absurd (PL.chk (by assumption)) hr7
              · skip
                replace hr6 := ne_of_bne hr6
                exfalso; have := PL.eq (by assumption); rw [this] at hr6; simp at hr6
            · skip
              replace hr5 := ne_of_bne hr5
              exact absurd (PL.eg (by assumption)) hr5
          · skip
            replace hr4 := ne_of_bne hr4
            exact absurd (PL.ef (by assumption)) hr4
        · skip
          replace hr3 := ne_of_bne hr3
          refine run_cond_t rfl ?_
          refine run_seq ?_
          refine run_region ?_
          refine ops_val (yld_move rfl) rfl ?_
          refine ops_val (yld_lenS Tryz.runUnderlying25 rfl) rfl ?_
          refine ops_valB (yld_eql rfl rfl) rfl fun r20 hr20 => ?_
          refine ops_val (yld_move rfl) rfl ?_
          cases r20
          · skip
            replace hr20 := ne_of_beq_false hr20
            exfalso; have := (PL.bad (by assumption)).1; subst this; simp at hr20
          · skip
            replace hr20 := eq_of_beq hr20
            refine ops_yes rfl rfl ?_
            refine ops_val (yld_move rfl) rfl ?_
            refine ops_yes rfl rfl ?_
            refine ops_valB (yld_neq rfl rfl) rfl fun r21 hr21 => ?_
            refine ops_yes rfl rfl ?_
            refine ops_val (yld_move rfl) rfl ?_
            cases r21
            · skip
              replace hr21 := eq_of_bne hr21
              refine ops_yes rfl rfl ?_
              refine ops_val (yld_move rfl) rfl ?_
              refine ops_yes rfl rfl ?_
              refine ops_valB (yld_neq rfl rfl) rfl fun r22 hr22 => ?_
              refine ops_yes rfl rfl ?_
              refine ops_val (yld_pick_f rfl rfl) rfl ?_
              refine ops_val (yld_pick_t rfl rfl) rfl ?_
              refine ops_val (yld_assign rfl) rfl ?_
              refine ops_nil ?_
              refine fin_next rfl ?_
              refine run_ret ?_
              exact ret1 Tryz.results3 () (get_bool rfl (by have hbd := (PL.bad (by assumption)).2; subst_vars; simp_all)) pf_nil (fun _ _ _ => trivial)
            · skip
              replace hr21 := ne_of_bne hr21
              refine ops_no rfl rfl rfl rfl ?_
              refine ops_no rfl rfl rfl rfl ?_
              refine ops_yes rfl rfl ?_
              refine ops_val (yld_pick_t rfl rfl) rfl ?_
              refine ops_val (yld_pick_t rfl rfl) rfl ?_
              refine ops_val (yld_assign rfl) rfl ?_
              refine ops_nil ?_
              refine fin_next rfl ?_
              refine run_ret ?_
              exact ret1 Tryz.results3 () (get_bool rfl rfl) pf_nil (fun _ _ _ => trivial)
      · skip
        replace hr2 := of_decide_eq_true hr2
        refine run_cond_t rfl ?_
        refine run_seq ?_
        refine run_region ?_
        refine ops_val (yld_assign rfl) rfl ?_
        refine ops_nil ?_
        refine fin_next rfl ?_
        refine run_ret ?_
        exact ret1 Tryz.results3 () (get_bool rfl rfl) pf_nil (fun _ _ _ => trivial)
    · skip
      replace hr1 := of_decide_eq_true hr1
      refine ops_no rfl rfl rfl rfl ?_
      refine ops_no rfl rfl rfl rfl ?_
      refine ops_no rfl rfl rfl rfl ?_
      refine ops_no rfl rfl rfl rfl ?_
      refine ops_val (yld_pick_t rfl rfl) rfl ?_
      refine ops_nil ?_
      refine fin_next rfl ?_
      refine run_cond_t rfl ?_
      refine run_seq ?_
      refine run_region ?_
      refine ops_val (yld_assign rfl) rfl ?_
      refine ops_nil ?_
      refine fin_next rfl ?_
      refine run_ret ?_
      exact ret1 Tryz.results3 () (get_bool rfl rfl) pf_nil (fun _ _ _ => trivial)

end Go.Proofs.YtoafjmalfclpoaaGreatDoor
