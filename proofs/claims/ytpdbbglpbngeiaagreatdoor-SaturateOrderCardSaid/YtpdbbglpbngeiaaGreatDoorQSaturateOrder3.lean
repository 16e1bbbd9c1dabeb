/-
  Part of the proof of the law SaturateOrder over this seat: the small logic, the data, the contracts of functions (no condition).
-/
import Derived.Test.YtpdbbglpbngeiaaGreatDoorQSaturateOrder2
import Derived.Test.YtpdbbglpbngeiaaGreatDoorQSaturateOrder1
import Derived.Scope
import Derived.Maps.RangeRun
set_option linter.unusedVariables false
set_option linter.unusedSimpArgs false
set_option linter.unusedSectionVars false
namespace Go.Vs
open Go Go.Sx
set_option linter.unusedVariables false
set_option linter.unusedSimpArgs false
def fsub (a b : Str) : Fc := ⟨1, a, b, [], 0, 0⟩
def flink (a r b : Str) : Fc := ⟨2, a, b, r, 0, 0⟩
def fspan (a r : Str) (lo hi : Int) : Fc := ⟨3, a, [], r, lo, hi⟩
/-- what follows in one step from S, where M says which two ranges meet -/
inductive One (p : List Pc) (A : List Str) (S : Fc → Prop) (M : Fc → Fc → Prop) : Fc → Prop
  | r1 {a : Str} (h : a ∈ A) : One p A S M (fsub a a)
  | r2 {a : Str} (h : a ∈ A) : One p A S M (fsub a [42])
  | r10 {a : Str} {x : Pc} (hx : x ∈ p) (hk : x.kind = 7) (h : a ∈ A) : One p A S M (flink a x.r a)
  | r3 {a : Str} {x : Pc} (hx : x ∈ p) (hk : x.kind = 1) (h : S (fsub a x.a)) : One p A S M (fsub a x.c)
  | r4 {a : Str} {x : Pc} (hx : x ∈ p) (hk : x.kind = 2) (h : S (fsub a x.a)) (h' : S (fsub a x.b)) : One p A S M (fsub a x.c)
  | r5 {a : Str} {x : Pc} (hx : x ∈ p) (hk : x.kind = 3) (h : S (fsub a x.a)) : One p A S M (flink a x.r x.c)
  | r6 {a b : Str} {x : Pc} (hx : x ∈ p) (hk : x.kind = 5) (h : S (flink a x.r b)) : One p A S M (flink a x.t b)
  | r7 {a b c : Str} {x : Pc} (hx : x ∈ p) (hk : x.kind = 6) (h : S (flink a x.r b)) (h' : S (flink b x.s c)) : One p A S M (flink a x.t c)
  | r8 {a b : Str} {x : Pc} (hx : x ∈ p) (hk : x.kind = 4) (h : S (flink a x.r b)) (h' : S (fsub b x.a)) : One p A S M (fsub a x.c)
  | r9 {a r b : Str} (h : S (flink a r b)) (h' : S (fsub b [33])) : One p A S M (fsub a [33])
  | r11 {a : Str} {x : Pc} (hx : x ∈ p) (hk : x.kind = 8) (h : S (fsub a x.a)) : One p A S M (fspan a x.r x.lo x.hi)
  | r12 {a r : Str} {lo hi lo' hi' : Int} (h : S (fspan a r lo hi)) (h' : S (fspan a r lo' hi')) (hm : M (fspan a r lo hi) (fspan a r lo' hi')) (hl : max lo lo' ≤ min hi hi') : One p A S M (fspan a r (max lo lo') (min hi hi'))
  | r13 {a r : Str} {lo hi lo' hi' : Int} (h : S (fspan a r lo hi)) (h' : S (fspan a r lo' hi')) (hm : M (fspan a r lo hi) (fspan a r lo' hi')) (hl : min hi hi' < max lo lo') : One p A S M (fsub a [33])
  | r14 {a : Str} {lo hi : Int} {x : Pc} (hx : x ∈ p) (hk : x.kind = 9) (h : S (fspan a x.r lo hi)) (h1 : x.lo ≤ lo) (h2 : hi ≤ x.hi) : One p A S M (fsub a x.c)
abbrev One' (p : List Pc) (A : List Str) (S : Fc → Prop) : Fc → Prop := One p A S (fun _ _ => True)
theorem One.mono {p p' : List Pc} {A A' : List Str} {S S' : Fc → Prop} {M M' : Fc → Fc → Prop} (hp : ∀ x ∈ p, ∃ y ∈ p', ∃ n, { y with frm := n } = x) (hA : ∀ a ∈ A, a ∈ A') (hS : ∀ y, S y → S' y) (hM : ∀ x y, M x y → M' x y) {y : Fc} (h : One p A S M y) : One p' A' S' M' y := by
  cases h with
  | r1 h => exact .r1 (hA _ h)
  | r2 h => exact .r2 (hA _ h)
  | r10 hx hk h => obtain ⟨z, hz, n, rfl⟩ := hp _ hx; exact One.r10 (x := z) hz hk (hA _ h)
  | r3 hx hk h => obtain ⟨z, hz, n, rfl⟩ := hp _ hx; exact One.r3 (x := z) hz hk (hS _ h)
  | r4 hx hk h h' => obtain ⟨z, hz, n, rfl⟩ := hp _ hx; exact One.r4 (x := z) hz hk (hS _ h) (hS _ h')
  | r5 hx hk h => obtain ⟨z, hz, n, rfl⟩ := hp _ hx; exact One.r5 (x := z) hz hk (hS _ h)
  | r6 hx hk h => obtain ⟨z, hz, n, rfl⟩ := hp _ hx; exact One.r6 (x := z) hz hk (hS _ h)
  | r7 hx hk h h' => obtain ⟨z, hz, n, rfl⟩ := hp _ hx; exact One.r7 (x := z) hz hk (hS _ h) (hS _ h')
  | r8 hx hk h h' => obtain ⟨z, hz, n, rfl⟩ := hp _ hx; exact One.r8 (x := z) hz hk (hS _ h) (hS _ h')
  | r9 h h' => exact .r9 (hS _ h) (hS _ h')
  | r11 hx hk h => obtain ⟨z, hz, n, rfl⟩ := hp _ hx; exact One.r11 (x := z) hz hk (hS _ h)
  | r12 h h' hm hl => exact .r12 (hS _ h) (hS _ h') (hM _ _ hm) hl
  | r13 h h' hm hl => exact .r13 (hS _ h) (hS _ h') (hM _ _ hm) hl
  | r14 hx hk h h1 h2 => obtain ⟨z, hz, n, rfl⟩ := hp _ hx; exact One.r14 (x := z) hz hk (hS _ h) h1 h2
/-- what follows -/
def Der (p : List Pc) (A : List Str) (y : Fc) : Prop := ∀ T : Fc → Prop, (∀ y, One' p A T y → T y) → T y
theorem Der.step {p : List Pc} {A : List Str} {y : Fc} (h : One' p A (Der p A) y) : Der p A y :=
  fun T hT => hT y (h.mono (fun x hx => ⟨x, hx, x.frm, rfl⟩) (fun _ h => h) (fun z hz => hz T hT) (fun _ _ h => h))
theorem Der.mono {p p' : List Pc} {A A' : List Str} (hp : ∀ x ∈ p, ∃ y ∈ p', ∃ n, { y with frm := n } = x) (hA : ∀ a ∈ A, a ∈ A') {y : Fc} (h : Der p A y) : Der p' A' y :=
  h _ fun _ hz => Der.step (hz.mono hp hA (fun _ h => h) (fun _ _ h => h))
theorem Der.least {p : List Pc} {A : List Str} {T : Fc → Prop} (hT : ∀ y, One' p A T y → T y) {y : Fc} (h : Der p A y) : T y := h T hT
structure Ky where
  kind : Int
  role : Str
  atom : Str
deriving DecidableEq
abbrev Spot := Str × Str
/-- what lies under a key in a map of rows, told as the list of all that was appended -/
def lat {K D : Type} [DecidableEq K] (l : List (K × D)) (k : K) : List D := (l.filter fun e => decide (e.1 = k)).map (·.2)
theorem lat_mem {K D : Type} [DecidableEq K] {l : List (K × D)} {k : K} {d : D} : d ∈ lat l k ↔ (k, d) ∈ l := by
  unfold lat
  simp only [List.mem_map, List.mem_filter, decide_eq_true_eq]
  exact ⟨fun ⟨⟨a, b⟩, ⟨h1, h2⟩, h3⟩ => by subst h2; subst h3; exact h1, fun h => ⟨(k, d), ⟨h, rfl⟩, rfl⟩⟩
theorem lat_append {K D : Type} [DecidableEq K] (l m : List (K × D)) (k : K) : lat (l ++ m) k = lat l k ++ lat m k := by simp [lat]
theorem lat_len {K D : Type} [DecidableEq K] (l : List (K × D)) (k : K) : (lat l k).length ≤ l.length := by
  simp only [lat, List.length_map]; exact List.length_filter_le _ _
def putL (x : Pc) : List (Ky × Pc) :=
  if x.kind = 1 ∨ x.kind = 3 ∨ x.kind = 8 then [(⟨x.kind, [], x.a⟩, x)]
  else if x.kind = 2 then if x.b ≠ x.a then [(⟨x.kind, [], x.a⟩, x), (⟨x.kind, [], x.b⟩, x)] else [(⟨x.kind, [], x.a⟩, x)]
  else if x.kind = 4 then [(⟨x.kind, [], x.a⟩, x), (⟨x.kind, x.r, x.a⟩, x)]
  else if x.kind = 5 ∨ x.kind = 9 then [(⟨x.kind, x.r, []⟩, x)]
  else if x.kind = 6 then [(⟨x.kind, x.r, []⟩, x), (⟨x.kind, [], x.s⟩, x)]
  else []
def Pc.zf (x : Pc) : Pc := { x with frm := 0 }
/-- the pieces without repetition -/
def uniq : List Pc → List Pc → List Pc
  | l, [] => l
  | l, x :: r => uniq (if x.zf ∈ l then l else l ++ [x.zf]) r
theorem uniq_mem : ∀ (r l : List Pc) (x : Pc), x ∈ uniq l r ↔ x ∈ l ∨ ∃ y ∈ r, y.zf = x
  | [], l, x => by simp [uniq]
  | y :: r, l, x => by
    rw [uniq, uniq_mem r]
    by_cases h : y.zf ∈ l
    · rw [if_pos h]
      constructor
      · rintro (h1 | ⟨z, h1, h2⟩)
        · exact .inl h1
        · exact .inr ⟨z, by simp [h1], h2⟩
      · rintro (h1 | ⟨z, h1, h2⟩)
        · exact .inl h1
        · rcases List.mem_cons.1 h1 with rfl | h1
          · exact .inl (h2 ▸ h)
          · exact .inr ⟨z, h1, h2⟩
    · rw [if_neg h]
      simp only [List.mem_append, List.mem_cons, List.not_mem_nil, or_false]
      constructor
      · rintro ((h1 | h1) | ⟨z, h1, h2⟩)
        · exact .inl h1
        · exact .inr ⟨y, .inl rfl, h1.symm⟩
        · exact .inr ⟨z, .inr h1, h2⟩
      · rintro (h1 | ⟨z, h1 | h1, h2⟩)
        · exact .inl (.inl h1)
        · subst h1; exact .inl (.inr h2.symm)
        · exact .inr ⟨z, h1, h2⟩
theorem uniq_len : ∀ (r l : List Pc), (uniq l r).length ≤ l.length + r.length
  | [], l => by simp [uniq]
  | y :: r, l => by
    rw [uniq]
    have := uniq_len r (if y.zf ∈ l then l else l ++ [y.zf])
    have h2 : (if y.zf ∈ l then l else l ++ [y.zf]).length ≤ l.length + 1 := by split <;> simp
    simp only [List.length_cons]
    omega
def pmOf (ps : List Pc) : List (Ky × Pc) := ps.flatMap putL
def loopsOf (ps : List Pc) : List Str := (ps.filter fun x => decide (x.kind = 7)).map (·.r)
theorem putL_all (x : Pc) : ∀ e ∈ putL x, e.2 = x ∧ e.1.kind = x.kind := by
  unfold putL
  repeat' split
  all_goals simp
theorem putL_mem {x y : Pc} {k : Ky} (h : (k, y) ∈ putL x) : y = x ∧ k.kind = x.kind := putL_all x _ h
/-- valid enough for the keys to tell the pieces apart -/
def Pc.rok (x : Pc) : Prop := (x.kind = 4 ∨ x.kind = 5 ∨ x.kind = 6 ∨ x.kind = 9 ∨ x.kind = 3 ∨ x.kind = 7 ∨ x.kind = 8 → x.r ≠ []) ∧ (x.kind = 6 → x.s ≠ [] ∧ x.t ≠ []) ∧ (x.kind = 5 → x.t ≠ [])
theorem pm_mem {ps : List Pc} {k : Ky} {x : Pc} : x ∈ lat (pmOf ps) k ↔ x ∈ ps ∧ (k, x) ∈ putL x := by
  rw [lat_mem, pmOf, List.mem_flatMap]
  constructor
  · rintro ⟨y, hy, h⟩
    obtain ⟨rfl, _⟩ := putL_mem h
    exact ⟨hy, h⟩
  · rintro ⟨h1, h2⟩
    exact ⟨x, h1, h2⟩
theorem pm1 {ps : List Pc} {b : Str} {x : Pc} : x ∈ lat (pmOf ps) ⟨1, [], b⟩ ↔ x ∈ ps ∧ x.kind = 1 ∧ x.a = b := by
  rw [pm_mem]
  refine and_congr_right fun _ => ⟨fun h => ?_, fun ⟨h, h'⟩ => ?_⟩
  · have hk := (putL_mem h).2
    simp only at hk
    simp [putL, ← hk] at h
    exact ⟨hk.symm, h.symm⟩
  · subst h'; simp [putL, h]
theorem pm2 {ps : List Pc} {b : Str} {x : Pc} : x ∈ lat (pmOf ps) ⟨2, [], b⟩ ↔ x ∈ ps ∧ x.kind = 2 ∧ (x.a = b ∨ x.b = b) := by
  rw [pm_mem]
  refine and_congr_right fun _ => ⟨fun h => ?_, fun ⟨h, h'⟩ => ?_⟩
  · have hk := (putL_mem h).2
    simp only at hk
    simp [putL, ← hk] at h
    split at h
    · simp at h; exact ⟨hk.symm, .inl h.symm⟩
    · simp at h; rcases h with h | h
      · exact ⟨hk.symm, .inl h.symm⟩
      · exact ⟨hk.symm, .inr h.symm⟩
  · by_cases e : x.b = x.a
    · have : x.a = b := h'.elim id (fun q => e ▸ q)
      subst this; simp [putL, h, e]
    · rcases h' with rfl | rfl <;> simp [putL, h, e]
theorem pm3 {ps : List Pc} {b : Str} {x : Pc} : x ∈ lat (pmOf ps) ⟨3, [], b⟩ ↔ x ∈ ps ∧ x.kind = 3 ∧ x.a = b := by
  rw [pm_mem]
  refine and_congr_right fun _ => ⟨fun h => ?_, fun ⟨h, h'⟩ => ?_⟩
  · have hk := (putL_mem h).2
    simp only at hk
    simp [putL, ← hk] at h
    exact ⟨hk.symm, h.symm⟩
  · subst h'; simp [putL, h]
theorem pm8 {ps : List Pc} {b : Str} {x : Pc} : x ∈ lat (pmOf ps) ⟨8, [], b⟩ ↔ x ∈ ps ∧ x.kind = 8 ∧ x.a = b := by
  rw [pm_mem]
  refine and_congr_right fun _ => ⟨fun h => ?_, fun ⟨h, h'⟩ => ?_⟩
  · have hk := (putL_mem h).2
    simp only at hk
    simp [putL, ← hk] at h
    exact ⟨hk.symm, h.symm⟩
  · subst h'; simp [putL, h]
theorem pm5 {ps : List Pc} {r : Str} {x : Pc} : x ∈ lat (pmOf ps) ⟨5, r, []⟩ ↔ x ∈ ps ∧ x.kind = 5 ∧ x.r = r := by
  rw [pm_mem]
  refine and_congr_right fun _ => ⟨fun h => ?_, fun ⟨h, h'⟩ => ?_⟩
  · have hk := (putL_mem h).2
    simp only at hk
    simp [putL, ← hk] at h
    exact ⟨hk.symm, h.symm⟩
  · subst h'; simp [putL, h]
theorem pm9 {ps : List Pc} {r : Str} {x : Pc} : x ∈ lat (pmOf ps) ⟨9, r, []⟩ ↔ x ∈ ps ∧ x.kind = 9 ∧ x.r = r := by
  rw [pm_mem]
  refine and_congr_right fun _ => ⟨fun h => ?_, fun ⟨h, h'⟩ => ?_⟩
  · have hk := (putL_mem h).2
    simp only at hk
    simp [putL, ← hk] at h
    exact ⟨hk.symm, h.symm⟩
  · subst h'; simp [putL, h]
theorem pm6 {ps : List Pc} {r : Str} (hn : r ≠ []) {x : Pc} : x ∈ lat (pmOf ps) ⟨6, r, []⟩ ↔ x ∈ ps ∧ x.kind = 6 ∧ x.r = r := by
  rw [pm_mem]
  refine and_congr_right fun hx => ⟨fun h => ?_, fun ⟨h, h'⟩ => ?_⟩
  · have hk := (putL_mem h).2
    simp only at hk
    simp [putL, ← hk, hn] at h
    exact ⟨hk.symm, h.symm⟩
  · subst h'; simp [putL, h]
theorem pm6' {ps : List Pc} {s : Str} {x : Pc} (hn : s ≠ []) : x ∈ lat (pmOf ps) ⟨6, [], s⟩ ↔ x ∈ ps ∧ x.kind = 6 ∧ x.s = s := by
  rw [pm_mem]
  refine and_congr_right fun hx => ⟨fun h => ?_, fun ⟨h, h'⟩ => ?_⟩
  · have hk := (putL_mem h).2
    simp only at hk
    simp [putL, ← hk, hn] at h
    exact ⟨hk.symm, h.symm⟩
  · subst h'; simp [putL, h]
theorem pm4 {ps : List Pc} (hr : ∀ x ∈ ps, x.rok) {b : Str} {x : Pc} : x ∈ lat (pmOf ps) ⟨4, [], b⟩ ↔ x ∈ ps ∧ x.kind = 4 ∧ x.a = b := by
  rw [pm_mem]
  refine and_congr_right fun hx => ⟨fun h => ?_, fun ⟨h, h'⟩ => ?_⟩
  · have hk := (putL_mem h).2
    simp only at hk
    have h0 := (hr x hx).1 (.inl hk.symm)
    simp [putL, ← hk] at h
    refine ⟨hk.symm, h.elim (fun q => q.symm) (fun q => absurd q.1 h0)⟩
  · subst h'; simp [putL, h]
theorem pm4' {ps : List Pc} {r b : Str} (hn : r ≠ []) {x : Pc} : x ∈ lat (pmOf ps) ⟨4, r, b⟩ ↔ x ∈ ps ∧ x.kind = 4 ∧ x.r = r ∧ x.a = b := by
  rw [pm_mem]
  refine and_congr_right fun hx => ⟨fun h => ?_, fun ⟨h, h', h''⟩ => ?_⟩
  · have hk := (putL_mem h).2
    simp only at hk
    simp [putL, ← hk, hn] at h
    exact ⟨hk.symm, h.1.symm, h.2.symm⟩
  · subst h' h''; simp [putL, h]
/-- the index -/
structure Ix where
  above : List (Str × Str)
  under : List (Str × Str)
  frm : List (Spot × Str)
  into : List (Spot × Str)
  ranges : List (Spot × Fc)
  firms : List (Spot × Fc)
def Ix.nil : Ix := ⟨[], [], [], [], [], []⟩
def Ix.add (x : Ix) (firm : Bool) (f : Fc) : Ix :=
  if f.kind = 1 then { x with above := x.above ++ [(f.a, f.b)] }
  else if f.kind = 2 then { x with under := x.under ++ [(f.b, f.a)], frm := x.frm ++ [((f.a, f.r), f.b)], into := x.into ++ [((f.b, f.r), f.a)] }
  else if f.kind = 3 then { x with ranges := x.ranges ++ [((f.a, f.r), f)], firms := if firm then x.firms ++ [((f.a, f.r), f)] else x.firms }
  else x
/-- what the index says of facts, some of which are firm -/
structure Ix.of (x : Ix) (S Fm : Fc → Prop) : Prop where
  above : ∀ a b, (a, b) ∈ x.above ↔ ∃ f, S f ∧ f.kind = 1 ∧ f.a = a ∧ f.b = b
  under : ∀ b a, (b, a) ∈ x.under ↔ ∃ f, S f ∧ f.kind = 2 ∧ f.a = a ∧ f.b = b
  frm : ∀ a r b, ((a, r), b) ∈ x.frm ↔ ∃ f, S f ∧ f.kind = 2 ∧ f.a = a ∧ f.r = r ∧ f.b = b
  into : ∀ a r b, ((b, r), a) ∈ x.into ↔ ∃ f, S f ∧ f.kind = 2 ∧ f.a = a ∧ f.r = r ∧ f.b = b
  ranges : ∀ a r f, ((a, r), f) ∈ x.ranges ↔ S f ∧ f.kind = 3 ∧ f.a = a ∧ f.r = r
  firms : ∀ a r f, ((a, r), f) ∈ x.firms ↔ S f ∧ Fm f ∧ f.kind = 3 ∧ f.a = a ∧ f.r = r
theorem Ix.of_nil (Fm : Fc → Prop) : Ix.nil.of (fun _ => False) Fm := by
  constructor <;> simp [Ix.nil]
theorem Ix.of_add {x : Ix} {S Fm : Fc → Prop} (h : x.of S Fm) (f : Fc) {b : Bool} (hb : b = true ↔ Fm f) : (x.add b f).of (fun y => S y ∨ y = f) Fm := by
  have key : ∀ (Q : Fc → Prop), (∃ y, (S y ∨ y = f) ∧ Q y) ↔ (∃ y, S y ∧ Q y) ∨ Q f := fun Q => by
    constructor
    · rintro ⟨y, h1 | rfl, h2⟩
      · exact .inl ⟨y, h1, h2⟩
      · exact .inr h2
    · rintro (⟨y, h1, h2⟩ | h2)
      · exact ⟨y, .inl h1, h2⟩
      · exact ⟨f, .inr rfl, h2⟩
  unfold Ix.add
  split
  · rename_i hk
    constructor
    · intro a c; rw [key, ← h.above]; simp [hk]; exact or_congr_right ⟨fun ⟨p, q⟩ => ⟨p.symm, q.symm⟩, fun ⟨p, q⟩ => ⟨p.symm, q.symm⟩⟩
    · intro a c; rw [key, ← h.under]; simp [hk]
    · intro a r c; rw [key, ← h.frm]; simp [hk]
    · intro a r c; rw [key, ← h.into]; simp [hk]
    · intro a r y; rw [h.ranges]; constructor
      · exact fun q => ⟨.inl q.1, q.2⟩
      · rintro ⟨q | rfl, q2⟩
        · exact ⟨q, q2⟩
        · rw [hk] at q2; exact absurd q2.1 (by decide)
    · intro a r y; rw [h.firms]; constructor
      · exact fun q => ⟨.inl q.1, q.2⟩
      · rintro ⟨q | rfl, q2⟩
        · exact ⟨q, q2⟩
        · rw [hk] at q2; exact absurd q2.2.1 (by decide)
  · split
    · rename_i hk
      constructor
      · intro a c; rw [key, ← h.above]; simp [hk]
      · intro a c; rw [key, ← h.under]; simp [hk]; exact or_congr_right ⟨fun ⟨p, q⟩ => ⟨q.symm, p.symm⟩, fun ⟨p, q⟩ => ⟨q.symm, p.symm⟩⟩
      · intro a r c; rw [key, ← h.frm]; simp [hk]; exact or_congr_right ⟨fun ⟨⟨p, q⟩, s⟩ => ⟨p.symm, q.symm, s.symm⟩, fun ⟨p, q, s⟩ => ⟨⟨p.symm, q.symm⟩, s.symm⟩⟩
      · intro a r c; rw [key, ← h.into]; simp [hk]; exact or_congr_right ⟨fun ⟨⟨p, q⟩, s⟩ => ⟨s.symm, q.symm, p.symm⟩, fun ⟨p, q, s⟩ => ⟨⟨s.symm, q.symm⟩, p.symm⟩⟩
      · intro a r y; rw [h.ranges]; constructor
        · exact fun q => ⟨.inl q.1, q.2⟩
        · rintro ⟨q | rfl, q2⟩
          · exact ⟨q, q2⟩
          · rw [hk] at q2; exact absurd q2.1 (by decide)
      · intro a r y; rw [h.firms]; constructor
        · exact fun q => ⟨.inl q.1, q.2⟩
        · rintro ⟨q | rfl, q2⟩
          · exact ⟨q, q2⟩
          · rw [hk] at q2; exact absurd q2.2.1 (by decide)
    · split
      · rename_i hk
        constructor
        · intro a c; rw [key, ← h.above]; simp [hk]
        · intro a c; rw [key, ← h.under]; simp [hk]
        · intro a r c; rw [key, ← h.frm]; simp [hk]
        · intro a r c; rw [key, ← h.into]; simp [hk]
        · intro a r y
          simp only [List.mem_append, List.mem_singleton, h.ranges, Prod.mk.injEq]
          constructor
          · rintro (⟨q, q2⟩ | ⟨⟨rfl, rfl⟩, rfl⟩)
            · exact ⟨.inl q, q2⟩
            · exact ⟨.inr rfl, hk, rfl, rfl⟩
          · rintro ⟨q | rfl, q2, rfl, rfl⟩
            · exact .inl ⟨q, q2, rfl, rfl⟩
            · exact .inr ⟨⟨rfl, rfl⟩, rfl⟩
        · intro a r y
          cases b with
          | false =>
            simp only [Bool.false_eq_true, if_false, h.firms]
            constructor
            · exact fun q => ⟨.inl q.1, q.2⟩
            · rintro ⟨q | rfl, q2⟩
              · exact ⟨q, q2⟩
              · exact absurd (hb.2 q2.1) (by decide)
          | true =>
            simp only [if_true, List.mem_append, List.mem_singleton, h.firms, Prod.mk.injEq]
            constructor
            · rintro (⟨q, q2⟩ | ⟨⟨rfl, rfl⟩, rfl⟩)
              · exact ⟨.inl q, q2⟩
              · exact ⟨.inr rfl, hb.1 rfl, hk, rfl, rfl⟩
            · rintro ⟨q | rfl, q2, q3, rfl, rfl⟩
              · exact .inl ⟨q, q2, q3, rfl, rfl⟩
              · exact .inr ⟨⟨rfl, rfl⟩, rfl⟩
      · rename_i h1 h2 h3
        constructor
        · intro a c; rw [key, ← h.above]; simp [h1]
        · intro a c; rw [key, ← h.under]; simp [h2]
        · intro a r c; rw [key, ← h.frm]; simp [h2]
        · intro a r c; rw [key, ← h.into]; simp [h2]
        · intro a r y; rw [h.ranges]; constructor
          · exact fun q => ⟨.inl q.1, q.2⟩
          · rintro ⟨q | rfl, q2⟩
            · exact ⟨q, q2⟩
            · exact absurd q2.1 h3
        · intro a r y; rw [h.firms]; constructor
          · exact fun q => ⟨.inl q.1, q.2⟩
          · rintro ⟨q | rfl, q2⟩
            · exact ⟨q, q2⟩
            · exact absurd q2.2.1 h3
theorem Ix.of_firm {x : Ix} {S Fm Fm' : Fc → Prop} (h : x.of S Fm) (hf : ∀ y, S y → (Fm y ↔ Fm' y)) : x.of S Fm' :=
  ⟨h.above, h.under, h.frm, h.into, h.ranges, fun a r f => by rw [h.firms]; exact and_congr_right fun hs => by rw [hf f hs]⟩
section
variable (pm : List (Ky × Pc)) (x : Ix) (f : Fc)
def containL : List Fc := (lat pm ⟨1, [], f.b⟩).map fun y => fsub f.a y.c
def someL : List Fc := (lat pm ⟨3, [], f.b⟩).map fun y => flink f.a y.r y.c
def includeL : List Fc := (lat pm ⟨5, f.r, []⟩).map fun y => flink f.a y.t f.b
def chainL1 : List Fc := (lat pm ⟨6, f.r, []⟩).flatMap fun y => (lat x.frm (f.b, y.s)).map fun c => flink f.a y.t c
def chainL2 : List Fc := (lat pm ⟨6, [], f.r⟩).flatMap fun y => (lat x.into (f.a, y.r)).map fun a => flink a y.t f.b
def fillLinkL : List Fc := (lat x.above f.b).flatMap fun c => (lat pm ⟨4, f.r, c⟩).map fun y => fsub f.a y.c
def fillAtomL : List Fc := (lat pm ⟨4, [], f.b⟩).flatMap fun y => (lat x.into (f.a, y.r)).map fun a => fsub a y.c
def emptyAtomL : List Fc := if f.b = [33] then (lat x.under f.a).map fun a => fsub a [33] else []
def outL : List Fc := ((lat pm ⟨9, f.r, []⟩).filter fun y => decide (y.lo ≤ f.lo ∧ f.hi ≤ y.hi)).map fun y => fsub f.a y.c
def meet1 (y : Fc) : Fc := fspan f.a f.r (max f.lo y.lo) (min f.hi y.hi)
def apart (y : Fc) : Bool := decide (min f.hi y.hi < max f.lo y.lo)
def meetR (firm : Bool) : List Fc := if firm then lat x.ranges (f.a, f.r) else lat x.firms (f.a, f.r)
def meetG (l : List Fc) : List Fc := (l.filter fun y => !apart f y && decide (meet1 f y ≠ f ∧ meet1 f y ≠ y)).map (meet1 f)
def meetE (l : List Fc) : List Fc := if l.any (apart f) then [fsub f.a [33]] else []
end
section
variable (stp : Fc → List Fc → List Fc) (kof : List Fc → List Fc)
def emits (L : List Fc) (s : List Fc) : List Fc := L.foldl (fun s y => stp y s) s
def bothF (f : Fc) (l : List Pc) (s : List Fc) : List Fc := l.foldl (fun s y => if fsub f.a y.a ∈ kof s ∧ fsub f.a y.b ∈ kof s then stp (fsub f.a y.c) s else s) s
def valueF (f : Fc) (l : List Pc) (s : List Fc × List Fc) : List Fc × List Fc := l.foldl (fun s y => (stp (fspan f.a y.r y.lo y.hi) s.1, if fspan f.a y.r y.lo y.hi ∈ kof s.1 then s.2 else fspan f.a y.r y.lo y.hi :: s.2)) s
end
theorem emits_append (stp : Fc → List Fc → List Fc) (L M : List Fc) (s : List Fc) : emits stp (L ++ M) s = emits stp M (emits stp L s) := by simp [emits]
/-- an order of emitting: what is known only grows -/
structure Grows (stp : Fc → List Fc → List Fc) (kof : List Fc → List Fc) : Prop where
  up : ∀ y s z, z ∈ kof s → z ∈ kof (stp y s)
theorem Grows.emits {stp : Fc → List Fc → List Fc} {kof : List Fc → List Fc} (h : Grows stp kof) : ∀ (L s : List Fc) (z : Fc), z ∈ kof s → z ∈ kof (emits stp L s)
  | [], _, _, hz => hz
  | y :: L, s, z, hz => h.emits L _ z (h.up y s z hz)
theorem bothF_emits {stp : Fc → List Fc → List Fc} {kof : List Fc → List Fc} (h : Grows stp kof) (f : Fc) : ∀ (l : List Pc) (s : List Fc),
    ∃ L, bothF stp kof f l s = emits stp L s ∧ (∀ y ∈ L, ∃ x ∈ l, y = fsub f.a x.c ∧ fsub f.a x.a ∈ kof (bothF stp kof f l s) ∧ fsub f.a x.b ∈ kof (bothF stp kof f l s)) ∧ (∀ x ∈ l, fsub f.a x.a ∈ kof s → fsub f.a x.b ∈ kof s → fsub f.a x.c ∈ L)
  | [], s => ⟨[], rfl, by simp, by simp⟩
  | x :: l, s => by
    by_cases hc : fsub f.a x.a ∈ kof s ∧ fsub f.a x.b ∈ kof s
    · obtain ⟨L, h1, h2, h3⟩ := bothF_emits h f l (stp (fsub f.a x.c) s)
      have e : bothF stp kof f (x :: l) s = bothF stp kof f l (stp (fsub f.a x.c) s) := by simp only [bothF, List.foldl_cons, if_pos hc]
      refine ⟨fsub f.a x.c :: L, by rw [e, h1]; rfl, fun y hy => ?_, fun z hz ha hb => ?_⟩
      · rw [e]
        rcases List.mem_cons.1 hy with rfl | hy
        · refine ⟨x, by simp, rfl, ?_, ?_⟩ <;> rw [h1] <;> exact h.emits L _ _ (h.up _ _ _ (by first | exact hc.1 | exact hc.2))
        · obtain ⟨z, hz, q⟩ := h2 y hy
          exact ⟨z, by simp [hz], q⟩
      · rcases List.mem_cons.1 hz with rfl | hz
        · simp
        · exact List.mem_cons_of_mem _ (h3 z hz (h.up _ _ _ ha) (h.up _ _ _ hb))
    · obtain ⟨L, h1, h2, h3⟩ := bothF_emits h f l s
      have e : bothF stp kof f (x :: l) s = bothF stp kof f l s := by simp only [bothF, List.foldl_cons, if_neg hc]
      refine ⟨L, by rw [e, h1], fun y hy => ?_, fun z hz ha hb => ?_⟩
      · rw [e]
        obtain ⟨z, hz, q⟩ := h2 y hy
        exact ⟨z, by simp [hz], q⟩
      · rcases List.mem_cons.1 hz with rfl | hz
        · exact absurd ⟨ha, hb⟩ hc
        · exact h3 z hz ha hb
theorem valueF_fst (stp : Fc → List Fc → List Fc) (kof : List Fc → List Fc) (f : Fc) : ∀ (l : List Pc) (s fm : List Fc), (valueF stp kof f l (s, fm)).1 = emits stp (l.map fun y => fspan f.a y.r y.lo y.hi) s
  | [], _, _ => rfl
  | x :: l, s, fm => by
    simp only [valueF, List.foldl_cons, List.map_cons, emits]
    exact valueF_fst stp kof f l _ _
theorem valueF_snd {stp : Fc → List Fc → List Fc} {kof : List Fc → List Fc} (h : Grows stp kof) (f : Fc) : ∀ (l : List Pc) (s fm : List Fc) (z : Fc), z ∈ (valueF stp kof f l (s, fm)).2 ↔ z ∈ fm ∨ (z ∉ kof s ∧ z ∈ (valueF stp kof f l (s, fm)).2)
  | [], s, fm, z => by simp [valueF]
  | x :: l, s, fm, z => by
    have ih := valueF_snd h f l (stp (fspan f.a x.r x.lo x.hi) s) (if fspan f.a x.r x.lo x.hi ∈ kof s then fm else fspan f.a x.r x.lo x.hi :: fm) z
    have e : valueF stp kof f (x :: l) (s, fm) = valueF stp kof f l (stp (fspan f.a x.r x.lo x.hi) s, if fspan f.a x.r x.lo x.hi ∈ kof s then fm else fspan f.a x.r x.lo x.hi :: fm) := rfl
    rw [e]
    constructor
    · intro hz
      rcases ih.1 hz with h1 | h1
      · split at h1
        · exact .inl h1
        · rename_i hn
          rcases List.mem_cons.1 h1 with rfl | h1
          · exact .inr ⟨hn, hz⟩
          · exact .inl h1
      · exact .inr ⟨fun q => h1.1 (h.up _ _ _ q), hz⟩
    · rintro (h1 | h1)
      · exact ih.2 (.inl (by split <;> simp [h1]))
      · exact h1.2
theorem valueF_new {stp : Fc → List Fc → List Fc} {kof : List Fc → List Fc} (f : Fc) : ∀ (l : List Pc) (s fm : List Fc) (z : Fc), z ∈ (valueF stp kof f l (s, fm)).2 → z ∈ fm ∨ ∃ y ∈ l, z = fspan f.a y.r y.lo y.hi
  | [], s, fm, z, hz => .inl hz
  | x :: l, s, fm, z, hz => by
    have e : valueF stp kof f (x :: l) (s, fm) = valueF stp kof f l (stp (fspan f.a x.r x.lo x.hi) s, if fspan f.a x.r x.lo x.hi ∈ kof s then fm else fspan f.a x.r x.lo x.hi :: fm) := rfl
    rw [e] at hz
    rcases valueF_new f l _ _ z hz with h1 | ⟨y, hy, h1⟩
    · split at h1
      · exact .inl h1
      · rcases List.mem_cons.1 h1 with rfl | h1
        · exact .inr ⟨x, by simp, rfl⟩
        · exact .inl h1
    · exact .inr ⟨y, by simp [hy], h1⟩
/-- the form of a fact that follows -/
def Fc.form (y : Fc) : Prop := (∃ a b, y = fsub a b) ∨ (∃ a r b, y = flink a r b ∧ r ≠ []) ∨ (∃ a r lo hi, y = fspan a r lo hi ∧ r ≠ [] ∧ -1099511627776 ≤ lo ∧ lo ≤ hi ∧ hi ≤ 1099511627776)
/-- valid enough -/
structure Pc.vok (x : Pc) : Prop where
  rok : x.rok
  num : x.kind = 8 ∨ x.kind = 9 → -1099511627776 ≤ x.lo ∧ x.lo ≤ x.hi ∧ x.hi ≤ 1099511627776
theorem fsub_form (a b : Str) : (fsub a b).form := .inl ⟨a, b, rfl⟩
theorem form1 {f : Fc} (h : f.form) (hk : f.kind = 1) : f = fsub f.a f.b := by
  rcases h with ⟨a, b, rfl⟩ | ⟨a, r, b, rfl, _⟩ | ⟨a, r, lo, hi, rfl, _⟩
  · rfl
  · simp [flink] at hk
  · simp [fspan] at hk
theorem form2 {f : Fc} (h : f.form) (hk : f.kind = 2) : f = flink f.a f.r f.b ∧ f.r ≠ [] := by
  rcases h with ⟨a, b, rfl⟩ | ⟨a, r, b, rfl, h⟩ | ⟨a, r, lo, hi, rfl, _⟩
  · simp [fsub] at hk
  · exact ⟨rfl, h⟩
  · simp [fspan] at hk
theorem form3 {f : Fc} (h : f.form) (hk : f.kind = 3) : f = fspan f.a f.r f.lo f.hi ∧ f.r ≠ [] ∧ -1099511627776 ≤ f.lo ∧ f.lo ≤ f.hi ∧ f.hi ≤ 1099511627776 := by
  rcases h with ⟨a, b, rfl⟩ | ⟨a, r, b, rfl, _⟩ | ⟨a, r, lo, hi, rfl, h⟩
  · simp [fsub] at hk
  · simp [flink] at hk
  · exact ⟨rfl, h⟩
theorem form_kind {f : Fc} (h : f.form) : f.kind = 1 ∨ f.kind = 2 ∨ f.kind = 3 := by
  rcases h with ⟨a, b, rfl⟩ | ⟨a, r, b, rfl, h⟩ | ⟨a, r, lo, hi, rfl, _⟩ <;> simp [fsub, flink, fspan]
theorem One.form {p : List Pc} {A : List Str} {S : Fc → Prop} {M : Fc → Fc → Prop} (hp : ∀ x ∈ p, x.vok) (hS : ∀ y, S y → y.form) {y : Fc} (h : One p A S M y) : y.form := by
  have link_r : ∀ {a r b : Str}, S (flink a r b) → r ≠ [] := fun h => (form2 (hS _ h) rfl).2
  have span_r : ∀ {a r : Str} {lo hi : Int}, S (fspan a r lo hi) → r ≠ [] ∧ -1099511627776 ≤ lo ∧ lo ≤ hi ∧ hi ≤ 1099511627776 := fun h => (form3 (hS _ h) rfl).2
  cases h with
  | r1 _ => exact fsub_form _ _
  | r2 _ => exact fsub_form _ _
  | r10 hx hk _ => exact .inr (.inl ⟨_, _, _, rfl, (hp _ hx).rok.1 (by simp [hk])⟩)
  | r3 _ _ _ => exact fsub_form _ _
  | r4 _ _ _ _ => exact fsub_form _ _
  | r5 hx hk _ => exact .inr (.inl ⟨_, _, _, rfl, (hp _ hx).rok.1 (by simp [hk])⟩)
  | r6 hx hk _ => exact .inr (.inl ⟨_, _, _, rfl, (hp _ hx).rok.2.2 hk⟩)
  | r7 hx hk _ _ => exact .inr (.inl ⟨_, _, _, rfl, ((hp _ hx).rok.2.1 hk).2⟩)
  | r8 _ _ _ _ => exact fsub_form _ _
  | r9 _ _ => exact fsub_form _ _
  | r11 hx hk _ => exact .inr (.inr ⟨_, _, _, _, rfl, (hp _ hx).rok.1 (by simp [hk]), (hp _ hx).num (.inl hk)⟩)
  | r12 h h' _ hl => exact .inr (.inr ⟨_, _, _, _, rfl, (span_r h).1, by have := span_r h; omega, hl, by have := span_r h; omega⟩)
  | r13 _ _ _ _ => exact fsub_form _ _
  | r14 _ _ _ _ _ => exact fsub_form _ _
section
variable {ps : List Pc} {A : List Str} {x : Ix} {S Fm : Fc → Prop} {f : Fc} {kn : List Fc}
theorem contain_sound (hk : f.kind = 1) (hf : f.form) (hkn : f ∈ kn) : ∀ y ∈ containL (pmOf ps) f, One' ps A (· ∈ kn) y := by
  intro y hy
  obtain ⟨z, hz, rfl⟩ := List.mem_map.1 hy
  obtain ⟨h1, h2, h3⟩ := pm1.1 hz
  exact .r3 h1 h2 (by rw [h3, ← form1 hf hk]; exact hkn)
theorem some_sound (hk : f.kind = 1) (hf : f.form) (hkn : f ∈ kn) : ∀ y ∈ someL (pmOf ps) f, One' ps A (· ∈ kn) y := by
  intro y hy
  obtain ⟨z, hz, rfl⟩ := List.mem_map.1 hy
  obtain ⟨h1, h2, h3⟩ := pm3.1 hz
  exact .r5 h1 h2 (by rw [h3, ← form1 hf hk]; exact hkn)
theorem value_sound (hk : f.kind = 1) (hf : f.form) (hkn : f ∈ kn) : ∀ y ∈ (lat (pmOf ps) ⟨8, [], f.b⟩).map (fun y => fspan f.a y.r y.lo y.hi), One' ps A (· ∈ kn) y := by
  intro y hy
  obtain ⟨z, hz, rfl⟩ := List.mem_map.1 hy
  obtain ⟨h1, h2, h3⟩ := pm8.1 hz
  exact .r11 h1 h2 (by rw [h3, ← form1 hf hk]; exact hkn)
theorem include_sound (hk : f.kind = 2) (hf : f.form) (hkn : f ∈ kn) : ∀ y ∈ includeL (pmOf ps) f, One' ps A (· ∈ kn) y := by
  intro y hy
  obtain ⟨z, hz, rfl⟩ := List.mem_map.1 hy
  obtain ⟨h1, h2, h3⟩ := pm5.1 hz
  exact .r6 h1 h2 (by rw [h3, ← (form2 hf hk).1]; exact hkn)
theorem ix_link {hS : ∀ y, S y → y.form} {a r b : Str} (h : ∃ g, S g ∧ g.kind = 2 ∧ g.a = a ∧ g.r = r ∧ g.b = b) : S (flink a r b) := by
  obtain ⟨g, h1, h2, rfl, rfl, rfl⟩ := h
  rw [← (form2 (hS g h1) h2).1]; exact h1
theorem ix_sub {hS : ∀ y, S y → y.form} {a b : Str} (h : ∃ g, S g ∧ g.kind = 1 ∧ g.a = a ∧ g.b = b) : S (fsub a b) := by
  obtain ⟨g, h1, h2, rfl, rfl⟩ := h
  rw [← form1 (hS g h1) h2]; exact h1
theorem chain_sound (hx : x.of S Fm) (hS : ∀ y, S y → y.form) (hkS : ∀ y, S y → y ∈ kn) (hk : f.kind = 2) (hf : f.form) (hkn : f ∈ kn) : ∀ y ∈ chainL1 (pmOf ps) x f ++ chainL2 (pmOf ps) x f, One' ps A (· ∈ kn) y := by
  intro y hy
  obtain ⟨e, hn⟩ := form2 hf hk
  rcases List.mem_append.1 hy with hy | hy
  · obtain ⟨z, hz, hy⟩ := List.mem_flatMap.1 hy
    obtain ⟨c, hc, rfl⟩ := List.mem_map.1 hy
    obtain ⟨h1, h2, h3⟩ := (pm6 hn).1 hz
    exact .r7 h1 h2 (by rw [h3, ← e]; exact hkn) (hkS _ (ix_link (hS := hS) ((hx.frm _ _ _).1 (lat_mem.1 hc))))
  · obtain ⟨z, hz, hy⟩ := List.mem_flatMap.1 hy
    obtain ⟨c, hc, rfl⟩ := List.mem_map.1 hy
    obtain ⟨h1, h2, h3⟩ := (pm6' hn).1 hz
    exact .r7 h1 h2 (hkS _ (ix_link (hS := hS) ((hx.into _ _ _).1 (lat_mem.1 hc)))) (by rw [h3, ← e]; exact hkn)
theorem fillLink_sound (hx : x.of S Fm) (hS : ∀ y, S y → y.form) (hkS : ∀ y, S y → y ∈ kn) (hk : f.kind = 2) (hf : f.form) (hkn : f ∈ kn) : ∀ y ∈ fillLinkL (pmOf ps) x f, One' ps A (· ∈ kn) y := by
  intro y hy
  obtain ⟨e, hn⟩ := form2 hf hk
  obtain ⟨c, hc, hy⟩ := List.mem_flatMap.1 hy
  obtain ⟨z, hz, rfl⟩ := List.mem_map.1 hy
  obtain ⟨h1, h2, h3, h4⟩ := (pm4' hn).1 hz
  exact .r8 (b := f.b) h1 h2 (by rw [h3, ← e]; exact hkn) (by rw [h4]; exact hkS _ (ix_sub (hS := hS) ((hx.above _ _).1 (lat_mem.1 hc))))
theorem fillAtom_sound (hr : ∀ x ∈ ps, x.vok) (hx : x.of S Fm) (hS : ∀ y, S y → y.form) (hkS : ∀ y, S y → y ∈ kn) (hk : f.kind = 1) (hf : f.form) (hkn : f ∈ kn) : ∀ y ∈ fillAtomL (pmOf ps) x f, One' ps A (· ∈ kn) y := by
  intro y hy
  obtain ⟨z, hz, hy⟩ := List.mem_flatMap.1 hy
  obtain ⟨c, hc, rfl⟩ := List.mem_map.1 hy
  obtain ⟨h1, h2, h3⟩ := (pm4 (fun x hx => (hr x hx).rok)).1 hz
  exact .r8 (b := f.a) h1 h2 (hkS _ (ix_link (hS := hS) ((hx.into _ _ _).1 (lat_mem.1 hc)))) (by rw [h3, ← form1 hf hk]; exact hkn)
theorem emptyAtom_sound (hx : x.of S Fm) (hS : ∀ y, S y → y.form) (hkS : ∀ y, S y → y ∈ kn) (hk : f.kind = 1) (hf : f.form) (hkn : f ∈ kn) : ∀ y ∈ emptyAtomL x f, One' ps A (· ∈ kn) y := by
  intro y hy
  unfold emptyAtomL at hy
  split at hy
  · rename_i hb
    obtain ⟨a, ha, rfl⟩ := List.mem_map.1 hy
    obtain ⟨g, h1, h2, h3, h4⟩ := (hx.under _ _).1 (lat_mem.1 ha)
    exact .r9 (r := g.r) (hkS _ (ix_link (hS := hS) ⟨g, h1, h2, h3, rfl, h4⟩)) (by rw [← hb, ← form1 hf hk]; exact hkn)
  · simp at hy
theorem emptyLink_sound (hk : f.kind = 2) (hf : f.form) (hkn : f ∈ kn) (h : fsub f.b [33] ∈ kn) : One' ps A (· ∈ kn) (fsub f.a [33]) :=
  .r9 (r := f.r) (b := f.b) (by rw [← (form2 hf hk).1]; exact hkn) h
theorem out_sound (hk : f.kind = 3) (hf : f.form) (hkn : f ∈ kn) : ∀ y ∈ outL (pmOf ps) f, One' ps A (· ∈ kn) y := by
  intro y hy
  obtain ⟨z, hz, rfl⟩ := List.mem_map.1 hy
  obtain ⟨hz, hc⟩ := List.mem_filter.1 hz
  obtain ⟨h1, h2, h3⟩ := pm9.1 hz
  have hc := of_decide_eq_true hc
  exact .r14 h1 h2 (by rw [h3, ← (form3 hf hk).1]; exact hkn) hc.1 hc.2
theorem meetR_mem (hx : x.of S Fm) {firm : Bool} {y : Fc} (hy : y ∈ meetR x f firm) : S y ∧ y.kind = 3 ∧ y.a = f.a ∧ y.r = f.r := by
  unfold meetR at hy
  split at hy
  · exact (hx.ranges _ _ _).1 (lat_mem.1 hy)
  · have := (hx.firms _ _ _).1 (lat_mem.1 hy)
    exact ⟨this.1, this.2.2⟩
theorem meet_sound (hx : x.of S Fm) (hS : ∀ y, S y → y.form) (hkS : ∀ y, S y → y ∈ kn) (hk : f.kind = 3) (hf : f.form) (hkn : f ∈ kn) {firm : Bool} : ∀ y ∈ meetG f (meetR x f firm) ++ meetE f (meetR x f firm), One' ps A (· ∈ kn) y := by
  intro y hy
  have e := (form3 hf hk).1
  rcases List.mem_append.1 hy with hy | hy
  · obtain ⟨z, hz, rfl⟩ := List.mem_map.1 hy
    obtain ⟨hz, hc⟩ := List.mem_filter.1 hz
    obtain ⟨h1, h2, h3, h4⟩ := meetR_mem hx hz
    simp only [apart, Bool.and_eq_true, Bool.not_eq_true', decide_eq_false_iff_not, Int.not_lt] at hc
    have ez := (form3 (hS z h1) h2).1
    rw [h3, h4] at ez
    exact .r12 (by rw [← e]; exact hkn) (by rw [← ez]; exact hkS z h1) trivial hc.1
  · unfold meetE at hy
    split at hy
    · rename_i ha
      obtain ⟨z, hz, hc⟩ := List.any_eq_true.1 ha
      obtain ⟨h1, h2, h3, h4⟩ := meetR_mem hx hz
      have ez := (form3 (hS z h1) h2).1
      rw [h3, h4] at ez
      simp only [List.mem_singleton] at hy
      subst hy
      exact .r13 (r := f.r) (by rw [← e]; exact hkn) (by rw [← ez]; exact hkS z h1) trivial (by simpa [apart] using hc)
    · simp at hy
theorem contain_all {z : Pc} {a : Str} (hz : z ∈ ps) (hk : z.kind = 1) : fsub a z.c ∈ containL (pmOf ps) (fsub a z.a) :=
  List.mem_map.2 ⟨z, pm1.2 ⟨hz, hk, rfl⟩, rfl⟩
theorem some_all {z : Pc} {a : Str} (hz : z ∈ ps) (hk : z.kind = 3) : flink a z.r z.c ∈ someL (pmOf ps) (fsub a z.a) :=
  List.mem_map.2 ⟨z, pm3.2 ⟨hz, hk, rfl⟩, rfl⟩
theorem value_all {z : Pc} {a : Str} (hz : z ∈ ps) (hk : z.kind = 8) : fspan a z.r z.lo z.hi ∈ (lat (pmOf ps) ⟨8, [], (fsub a z.a).b⟩).map (fun y => fspan (fsub a z.a).a y.r y.lo y.hi) :=
  List.mem_map.2 ⟨z, pm8.2 ⟨hz, hk, rfl⟩, rfl⟩
theorem include_all {z : Pc} {a b : Str} (hz : z ∈ ps) (hk : z.kind = 5) : flink a z.t b ∈ includeL (pmOf ps) (flink a z.r b) :=
  List.mem_map.2 ⟨z, pm5.2 ⟨hz, hk, rfl⟩, rfl⟩
theorem chain_all1 (hx : x.of S Fm) (hr : ∀ x ∈ ps, x.vok) {z : Pc} {a b c : Str} (hz : z ∈ ps) (hk : z.kind = 6) (h : S (flink b z.s c)) : flink a z.t c ∈ chainL1 (pmOf ps) x (flink a z.r b) :=
  List.mem_flatMap.2 ⟨z, (pm6 ((hr z hz).rok.1 (by simp [hk]))).2 ⟨hz, hk, rfl⟩, List.mem_map.2 ⟨c, lat_mem.2 ((hx.frm _ _ _).2 ⟨_, h, rfl, rfl, rfl, rfl⟩), rfl⟩⟩
theorem chain_all2 (hx : x.of S Fm) (hr : ∀ x ∈ ps, x.vok) {z : Pc} {a b c : Str} (hz : z ∈ ps) (hk : z.kind = 6) (h : S (flink a z.r b)) : flink a z.t c ∈ chainL2 (pmOf ps) x (flink b z.s c) :=
  List.mem_flatMap.2 ⟨z, (pm6' ((hr z hz).rok.2.1 hk).1).2 ⟨hz, hk, rfl⟩, List.mem_map.2 ⟨a, lat_mem.2 ((hx.into _ _ _).2 ⟨_, h, rfl, rfl, rfl, rfl⟩), rfl⟩⟩
theorem fillLink_all (hx : x.of S Fm) (hr : ∀ x ∈ ps, x.vok) {z : Pc} {a b : Str} (hz : z ∈ ps) (hk : z.kind = 4) (h : S (fsub b z.a)) : fsub a z.c ∈ fillLinkL (pmOf ps) x (flink a z.r b) :=
  List.mem_flatMap.2 ⟨z.a, lat_mem.2 ((hx.above _ _).2 ⟨_, h, rfl, rfl, rfl⟩), List.mem_map.2 ⟨z, (pm4' ((hr z hz).rok.1 (by simp [hk]))).2 ⟨hz, hk, rfl, rfl⟩, rfl⟩⟩
theorem fillAtom_all (hx : x.of S Fm) (hr : ∀ x ∈ ps, x.vok) {z : Pc} {a b : Str} (hz : z ∈ ps) (hk : z.kind = 4) (h : S (flink a z.r b)) : fsub a z.c ∈ fillAtomL (pmOf ps) x (fsub b z.a) :=
  List.mem_flatMap.2 ⟨z, (pm4 (fun x hx => (hr x hx).rok)).2 ⟨hz, hk, rfl⟩, List.mem_map.2 ⟨a, lat_mem.2 ((hx.into _ _ _).2 ⟨_, h, rfl, rfl, rfl, rfl⟩), rfl⟩⟩
theorem emptyAtom_all (hx : x.of S Fm) {a r b : Str} (h : S (flink a r b)) : fsub a [33] ∈ emptyAtomL x (fsub b [33]) := by
  unfold emptyAtomL
  rw [if_pos (show (fsub b [33]).b = [33] from rfl)]
  exact List.mem_map.2 ⟨a, lat_mem.2 ((hx.under _ _).2 ⟨_, h, rfl, rfl, rfl⟩), rfl⟩
theorem out_all {z : Pc} {a : Str} {lo hi : Int} (hz : z ∈ ps) (hk : z.kind = 9) (h1 : z.lo ≤ lo) (h2 : hi ≤ z.hi) : fsub a z.c ∈ outL (pmOf ps) (fspan a z.r lo hi) :=
  List.mem_map.2 ⟨z, List.mem_filter.2 ⟨pm9.2 ⟨hz, hk, rfl⟩, decide_eq_true ⟨h1, h2⟩⟩, rfl⟩
theorem meetR_all (hx : x.of S Fm) {firm : Bool} (hfm : firm = true ↔ Fm f) {y : Fc} (hy : S y) (hk : y.kind = 3) (ha : y.a = f.a) (hr : y.r = f.r) (hm : Fm f ∨ Fm y) : y ∈ meetR x f firm := by
  unfold meetR
  cases firm with
  | true => rw [if_pos rfl]; exact lat_mem.2 ((hx.ranges _ _ _).2 ⟨hy, hk, ha, hr⟩)
  | false =>
    rw [if_neg (by decide)]
    refine lat_mem.2 ((hx.firms _ _ _).2 ⟨hy, hm.resolve_left (fun q => ?_), hk, ha, hr⟩)
    exact absurd (hfm.2 q) (by decide)
/-- two ranges meet, seen from one of them -/
theorem meet_all {l : List Fc} {y : Fc} (hy : y ∈ l) :
    (max f.lo y.lo ≤ min f.hi y.hi → meet1 f y ∈ meetG f l ∨ meet1 f y = f ∨ meet1 f y = y) ∧ (min f.hi y.hi < max f.lo y.lo → fsub f.a [33] ∈ meetE f l) := by
  refine ⟨fun h => ?_, fun h => ?_⟩
  · by_cases h1 : meet1 f y = f
    · exact .inr (.inl h1)
    · by_cases h2 : meet1 f y = y
      · exact .inr (.inr h2)
      · refine .inl (List.mem_map.2 ⟨y, List.mem_filter.2 ⟨hy, ?_⟩, rfl⟩)
        simp only [apart, Bool.and_eq_true, Bool.not_eq_true', decide_eq_false_iff_not, Int.not_lt, decide_eq_true_eq]
        exact ⟨h, h1, h2⟩
  · unfold meetE
    rw [if_pos (List.any_eq_true.2 ⟨y, hy, by simpa [apart] using h⟩)]
    simp
end
section
variable (stp : Fc → List Fc → List Fc) (kof : List Fc → List Fc) (pm : List (Ky × Pc)) (x : Ix) (f : Fc)
/-- rule j for a fact -/
def rl (j : Nat) (s : List Fc × List Fc) : List Fc × List Fc :=
  if f.kind = 1 then
    (match j with
    | 0 => (emits stp (containL pm f) s.1, s.2)
    | 1 => (bothF stp kof f (lat pm ⟨2, [], f.b⟩) s.1, s.2)
    | 2 => (emits stp (someL pm f) s.1, s.2)
    | 3 => (emits stp (fillAtomL pm x f) s.1, s.2)
    | 4 => (emits stp (emptyAtomL x f) s.1, s.2)
    | _ => valueF stp kof f (lat pm ⟨8, [], f.b⟩) s)
  else if f.kind = 2 then
    (match j with
    | 0 => (emits stp (includeL pm f) s.1, s.2)
    | 1 => (emits stp (chainL1 pm x f ++ chainL2 pm x f) s.1, s.2)
    | 2 => (emits stp (fillLinkL pm x f) s.1, s.2)
    | _ => (if fsub f.b [33] ∈ kof s.1 then stp (fsub f.a [33]) s.1 else s.1, s.2))
  else
    (match j with
    | 0 => (emits stp (meetG f (meetR x f (decide (f ∈ s.2))) ++ meetE f (meetR x f (decide (f ∈ s.2)))) s.1, s.2)
    | _ => (emits stp (outL pm f) s.1, s.2))
def rls : Nat → List Fc × List Fc → List Fc × List Fc
  | 0, s => s
  | j + 1, s => rl stp kof pm x f j (rls j s)
def nrl : Nat := if f.kind = 1 then 6 else if f.kind = 2 then 4 else 2
end
/-- all that follows from f and facts of S (those of kn for some rules) is good -/
structure Cmpl (ps : List Pc) (S Fm kn good : Fc → Prop) (f : Fc) : Prop where
  c3 : ∀ z a, z ∈ ps → z.kind = 1 → f = fsub a z.a → good (fsub a z.c)
  c4 : ∀ z a, z ∈ ps → z.kind = 2 → f = fsub a z.a → kn (fsub a z.b) → good (fsub a z.c)
  c4' : ∀ z a, z ∈ ps → z.kind = 2 → f = fsub a z.b → kn (fsub a z.a) → good (fsub a z.c)
  c5 : ∀ z a, z ∈ ps → z.kind = 3 → f = fsub a z.a → good (flink a z.r z.c)
  c6 : ∀ z a b, z ∈ ps → z.kind = 5 → f = flink a z.r b → good (flink a z.t b)
  c7 : ∀ z a b c, z ∈ ps → z.kind = 6 → f = flink a z.r b → S (flink b z.s c) → good (flink a z.t c)
  c7' : ∀ z a b c, z ∈ ps → z.kind = 6 → f = flink b z.s c → S (flink a z.r b) → good (flink a z.t c)
  c8 : ∀ z a b, z ∈ ps → z.kind = 4 → f = flink a z.r b → S (fsub b z.a) → good (fsub a z.c)
  c8' : ∀ z a b, z ∈ ps → z.kind = 4 → f = fsub b z.a → S (flink a z.r b) → good (fsub a z.c)
  c9 : ∀ a r b, f = flink a r b → kn (fsub b [33]) → good (fsub a [33])
  c9' : ∀ a r b, f = fsub b [33] → S (flink a r b) → good (fsub a [33])
  c11 : ∀ z a, z ∈ ps → z.kind = 8 → f = fsub a z.a → good (fspan a z.r z.lo z.hi)
  c12 : ∀ y, f.kind = 3 → S y → y.kind = 3 → y.a = f.a → y.r = f.r → (Fm f ∨ Fm y) → max f.lo y.lo ≤ min f.hi y.hi → good (meet1 f y)
  c13 : ∀ y, f.kind = 3 → S y → y.kind = 3 → y.a = f.a → y.r = f.r → (Fm f ∨ Fm y) → min f.hi y.hi < max f.lo y.lo → good (fsub f.a [33])
  c14 : ∀ z a lo hi, z ∈ ps → z.kind = 9 → f = fspan a z.r lo hi → z.lo ≤ lo → hi ≤ z.hi → good (fsub a z.c)
section
variable {stp : Fc → List Fc → List Fc} {kof : List Fc → List Fc} {ps : List Pc} {A : List Str} {x : Ix} {S Fm : Fc → Prop} {f : Fc}
theorem rl_emits (hg : Grows stp kof) (j : Nat) (s : List Fc × List Fc) : ∃ L, (rl stp kof (pmOf ps) x f j s).1 = emits stp L s.1 := by
  unfold rl
  split
  · split
    · exact ⟨_, rfl⟩
    · obtain ⟨L, h, _⟩ := bothF_emits hg f (lat (pmOf ps) ⟨2, [], f.b⟩) s.1
      exact ⟨L, h⟩
    · exact ⟨_, rfl⟩
    · exact ⟨_, rfl⟩
    · exact ⟨_, rfl⟩
    · exact ⟨_, valueF_fst stp kof f _ s.1 s.2⟩
  · split
    · split
      · exact ⟨_, rfl⟩
      · exact ⟨_, rfl⟩
      · exact ⟨_, rfl⟩
      · simp only
        split
        · exact ⟨[fsub f.a [33]], rfl⟩
        · exact ⟨[], rfl⟩
    · split
      · exact ⟨_, rfl⟩
      · exact ⟨_, rfl⟩
theorem rls_emits (hg : Grows stp kof) (j : Nat) (s : List Fc × List Fc) : ∃ L, (rls stp kof (pmOf ps) x f j s).1 = emits stp L s.1 := by
  induction j with
  | zero => exact ⟨[], rfl⟩
  | succ j ih =>
    obtain ⟨L, h⟩ := ih
    obtain ⟨M, h'⟩ := rl_emits (ps := ps) (x := x) (f := f) hg j (rls stp kof (pmOf ps) x f j s)
    exact ⟨L ++ M, by rw [rls, h', h, emits_append]⟩
theorem rls_up (hg : Grows stp kof) (j : Nat) (s : List Fc × List Fc) (z : Fc) (hz : z ∈ kof s.1) : z ∈ kof (rls stp kof (pmOf ps) x f j s).1 := by
  obtain ⟨L, h⟩ := rls_emits (ps := ps) (x := x) (f := f) hg j s
  rw [h]; exact hg.emits L _ z hz
/-- the firm ones turn only by the last rule for containments -/
theorem rls_firm (j : Nat) (s : List Fc × List Fc) (h : f.kind = 1 → j ≤ 5) : (rls stp kof (pmOf ps) x f j s).2 = s.2 := by
  induction j with
  | zero => rfl
  | succ j ih =>
    rw [← ih (fun hk => by have := h hk; omega), rls, rl.eq_def]
    split
    · rename_i hk
      have := h hk
      match j, this with
      | 0, _ => rfl
      | 1, _ => rfl
      | 2, _ => rfl
      | 3, _ => rfl
      | 4, _ => rfl
    · split
      · split <;> rfl
      · split <;> rfl
theorem rls_cmpl (hg : Grows stp kof) (hr : ∀ x ∈ ps, x.vok) (hx : x.of S Fm) (s : List Fc × List Fc) (hfm : ∀ y, S y → (Fm y ↔ y ∈ s.2)) (hf : S f) (hSk : ∀ y, S y → y ∈ kof s.1) (good : Fc → Prop) (hS : ∀ y, S y → good y)
    (H : ∀ j, j < nrl f → ∀ L, (rls stp kof (pmOf ps) x f (j + 1) s).1 = emits stp L (rls stp kof (pmOf ps) x f j s).1 → ∀ y ∈ L, good y) :
    Cmpl ps S Fm (· ∈ kof s.1) good f := by
  have K : ∀ k j, f.kind = k → j < nrl f → ∀ L, (rl stp kof (pmOf ps) x f j (rls stp kof (pmOf ps) x f j s)).1 = emits stp L (rls stp kof (pmOf ps) x f j s).1 → ∀ y ∈ L, good y := fun k j _ hj L hL => H j hj L (by rw [rls]; exact hL)
  have n1 : f.kind = 1 → nrl f = 6 := fun h => by simp [nrl, h]
  have n2 : f.kind = 2 → nrl f = 4 := fun h => by simp [nrl, h]
  have n3 : f.kind = 3 → nrl f = 2 := fun h => by simp [nrl, h]
  have k1 : ∀ {a b}, f = fsub a b → f.kind = 1 := fun e => by rw [e]; rfl
  have k2 : ∀ {a r b}, f = flink a r b → f.kind = 2 := fun e => by rw [e]; rfl
  have k3 : ∀ {a r lo hi}, f = fspan a r lo hi → f.kind = 3 := fun e => by rw [e]; rfl
  have both : ∀ z a, z ∈ ps → z.kind = 2 → f.kind = 1 → f.a = a → (z.a = f.b ∨ z.b = f.b) → fsub a z.a ∈ kof s.1 → fsub a z.b ∈ kof s.1 → good (fsub a z.c) := by
    intro z a hz hk h1 ha hb g1 g2
    subst ha
    obtain ⟨L, e1, e2, e3⟩ := bothF_emits hg f (lat (pmOf ps) ⟨2, [], f.b⟩) (rls stp kof (pmOf ps) x f 1 s).1
    exact K 1 1 h1 (by rw [n1 h1]; decide) L (by rw [rl.eq_def, if_pos h1]; exact e1) _ (e3 z (pm2.2 ⟨hz, hk, hb⟩) (rls_up hg 1 s _ g1) (rls_up hg 1 s _ g2))
  have mt : f.kind = 3 → (∀ y ∈ meetG f (meetR x f (decide (f ∈ s.2))) ++ meetE f (meetR x f (decide (f ∈ s.2))), good y) := fun h3 =>
    K 3 0 h3 (by rw [n3 h3]; decide) _ (by rw [rl.eq_def, if_neg (by rw [h3]; decide), if_neg (by rw [h3]; decide)]; rfl)
  have hfirm : decide (f ∈ s.2) = true ↔ Fm f := by rw [decide_eq_true_eq]; exact (hfm f hf).symm
  refine ⟨?_, ?_, ?_, ?_, ?_, ?_, ?_, ?_, ?_, ?_, ?_, ?_, ?_, ?_, ?_⟩
  · intro z a hz hk e
    have h1 := k1 e
    exact K 1 0 h1 (by rw [n1 h1]; decide) (containL (pmOf ps) f) (by rw [rl.eq_def, if_pos h1] <;> rfl) _ (by rw [e]; exact contain_all hz hk)
  · intro z a hz hk e h
    have h1 := k1 e
    exact both z a hz hk h1 (by rw [e]; rfl) (by rw [e]; exact .inl rfl) (by rw [← e]; exact hSk f hf) h
  · intro z a hz hk e h
    have h1 := k1 e
    exact both z a hz hk h1 (by rw [e]; rfl) (by rw [e]; exact .inr rfl) h (by rw [← e]; exact hSk f hf)
  · intro z a hz hk e
    have h1 := k1 e
    exact K 1 2 h1 (by rw [n1 h1]; decide) (someL (pmOf ps) f) (by rw [rl.eq_def, if_pos h1] <;> rfl) _ (by rw [e]; exact some_all hz hk)
  · intro z a b hz hk e
    have h1 := k2 e
    exact K 2 0 h1 (by rw [n2 h1]; decide) (includeL (pmOf ps) f) (by rw [rl.eq_def, if_neg (by rw [h1]; decide), if_pos h1] <;> rfl) _ (by rw [e]; exact include_all hz hk)
  · intro z a b c hz hk e h
    have h1 := k2 e
    exact K 2 1 h1 (by rw [n2 h1]; decide) (chainL1 (pmOf ps) x f ++ chainL2 (pmOf ps) x f) (by rw [rl.eq_def, if_neg (by rw [h1]; decide), if_pos h1] <;> rfl) _ (List.mem_append_left _ (by rw [e]; exact chain_all1 hx hr hz hk h))
  · intro z a b c hz hk e h
    have h1 := k2 e
    exact K 2 1 h1 (by rw [n2 h1]; decide) (chainL1 (pmOf ps) x f ++ chainL2 (pmOf ps) x f) (by rw [rl.eq_def, if_neg (by rw [h1]; decide), if_pos h1] <;> rfl) _ (List.mem_append_right _ (by rw [e]; exact chain_all2 hx hr hz hk h))
  · intro z a b hz hk e h
    have h1 := k2 e
    exact K 2 2 h1 (by rw [n2 h1]; decide) (fillLinkL (pmOf ps) x f) (by rw [rl.eq_def, if_neg (by rw [h1]; decide), if_pos h1] <;> rfl) _ (by rw [e]; exact fillLink_all hx hr hz hk h)
  · intro z a b hz hk e h
    have h1 := k1 e
    exact K 1 3 h1 (by rw [n1 h1]; decide) (fillAtomL (pmOf ps) x f) (by rw [rl.eq_def, if_pos h1] <;> rfl) _ (by rw [e]; exact fillAtom_all hx hr hz hk h)
  · intro a r b e h
    have h1 := k2 e
    have e1 : fsub f.b [33] ∈ kof (rls stp kof (pmOf ps) x f 3 s).1 := rls_up hg 3 s _ (by rw [e]; exact h)
    exact K 2 3 h1 (by rw [n2 h1]; decide) [fsub f.a [33]] (by rw [rl.eq_def, if_neg (by rw [h1]; decide), if_pos h1]; simp only [if_pos e1]; rfl) _ (by rw [e]; simp [flink])
  · intro a r b e h
    have h1 := k1 e
    exact K 1 4 h1 (by rw [n1 h1]; decide) (emptyAtomL x f) (by rw [rl.eq_def, if_pos h1] <;> rfl) _ (by rw [e]; exact emptyAtom_all hx h)
  · intro z a hz hk e
    have h1 := k1 e
    exact K 1 5 h1 (by rw [n1 h1]; decide) ((lat (pmOf ps) ⟨8, [], f.b⟩).map fun y => fspan f.a y.r y.lo y.hi) (by rw [rl.eq_def, if_pos h1]; exact valueF_fst stp kof f _ _ _) _ (by rw [e]; exact value_all hz hk)
  · intro y h3 hy hk ha hr' hm hl
    have hmem := meetR_all hx hfirm hy hk ha hr' hm
    rcases (meet_all (f := f) hmem).1 hl with q | q | q
    · exact mt h3 _ (List.mem_append_left _ q)
    · rw [q]; exact hS f hf
    · rw [q]; exact hS y hy
  · intro y h3 hy hk ha hr' hm hl
    have hmem := meetR_all hx hfirm hy hk ha hr' hm
    exact mt h3 _ (List.mem_append_right _ ((meet_all (f := f) hmem).2 hl))
  · intro z a lo hi hz hk e g1 g2
    have h1 := k3 e
    exact K 3 1 h1 (by rw [n3 h1]; decide) (outL (pmOf ps) f) (by rw [rl.eq_def, if_neg (by rw [h1]; decide), if_neg (by rw [h1]; decide)] <;> rfl) _ (by rw [e]; exact out_all hz hk g1 g2)
end
end Go.Vs
namespace Go.Vs
open Go Go.Sx
set_option linter.unusedVariables false
set_option linter.unusedSimpArgs false
def stpA (m : Nat) (y : Fc) (q : List Fc) : List Fc := if q.length ≤ m ∧ y ∉ q then q ++ [y] else q
abbrev idk : List Fc → List Fc := fun q => q
theorem stpA_pre (m : Nat) (y : Fc) (q : List Fc) : ∃ t, stpA m y q = q ++ t := by
  unfold stpA; split
  · exact ⟨[y], rfl⟩
  · exact ⟨[], by simp⟩
theorem emA_pre (m : Nat) : ∀ (L q : List Fc), ∃ t, emits (stpA m) L q = q ++ t
  | [], q => ⟨[], by simp [emits]⟩
  | y :: L, q => by
    obtain ⟨t, h⟩ := stpA_pre m y q
    obtain ⟨u, h'⟩ := emA_pre m L (stpA m y q)
    exact ⟨t ++ u, by rw [← List.append_assoc, ← h, ← h']; rfl⟩
theorem growsA (m : Nat) : Grows (stpA m) idk := ⟨fun y s z hz => by obtain ⟨t, h⟩ := stpA_pre m y s; rw [h]; exact List.mem_append_left _ hz⟩
theorem emA_mem (m : Nat) : ∀ (L q : List Fc) (z : Fc), z ∈ emits (stpA m) L q → z ∈ q ∨ z ∈ L
  | [], q, z, h => .inl h
  | y :: L, q, z, h => by
    rcases emA_mem m L (stpA m y q) z h with h | h
    · unfold stpA at h
      split at h
      · rcases List.mem_append.1 h with h | h
        · exact .inl h
        · exact .inr (by simp at h; simp [h])
      · exact .inl h
    · exact .inr (List.mem_cons_of_mem _ h)
theorem emA_nodup (m : Nat) : ∀ (L q : List Fc), q.Nodup → (emits (stpA m) L q).Nodup
  | [], q, h => h
  | y :: L, q, h => by
    refine emA_nodup m L (stpA m y q) ?_
    unfold stpA
    split
    · rename_i hc
      rw [List.nodup_append]
      exact ⟨h, by simp, fun a ha b hb e => by simp at hb; subst hb; subst e; exact hc.2 ha⟩
    · exact h
theorem emA_len (m : Nat) : ∀ (L q : List Fc), q.length ≤ m + 1 → (emits (stpA m) L q).length ≤ m + 1
  | [], q, h => h
  | y :: L, q, h => by
    refine emA_len m L (stpA m y q) ?_
    unfold stpA
    split
    · rename_i hc; simp; exact hc.1
    · exact h
theorem emA_all (m : Nat) : ∀ (L q : List Fc), (emits (stpA m) L q).length ≤ m → ∀ y ∈ L, y ∈ emits (stpA m) L q
  | [], q, _, y, hy => by simp at hy
  | x :: L, q, h, y, hy => by
    have e : emits (stpA m) (x :: L) q = emits (stpA m) L (stpA m x q) := rfl
    rw [e] at h ⊢
    rcases List.mem_cons.1 hy with rfl | hy
    · obtain ⟨t, ht⟩ := emA_pre m L (stpA m y q)
      rw [ht] at h ⊢
      refine List.mem_append_left _ ?_
      have hl : (stpA m y q).length ≤ m := by rw [List.length_append] at h; omega
      unfold stpA at hl ⊢
      split
      · simp
      · rename_i hc
        rw [if_neg hc] at hl
        exact Classical.byContradiction fun hn => hc ⟨hl, hn⟩
    · exact emA_all m L _ h y hy
theorem bothA_sound {ps : List Pc} {A : List Str} {m : Nat} {f : Fc} : ∀ (l : List Pc) (s : List Fc), (∀ z ∈ l, z ∈ ps ∧ z.kind = 2) → (∀ y ∈ s, Der ps A y) → ∀ y ∈ bothF (stpA m) idk f l s, Der ps A y
  | [], s, _, hs, y, hy => hs y hy
  | z :: l, s, hl, hs, y, hy => by
    have hz := hl z (by simp)
    simp only [bothF, List.foldl_cons] at hy
    refine bothA_sound l _ (fun z hz => hl z (by simp [hz])) (fun y hy => ?_) y hy
    split at hy
    · rename_i hc
      have := emA_mem m [fsub f.a z.c] s y hy
      rcases this with h | h
      · exact hs y h
      · simp at h; subst h
        exact Der.step (.r4 hz.1 hz.2 (hs _ hc.1) (hs _ hc.2))
    · exact hs y hy
section
variable {ps : List Pc} {A : List Str} {m : Nat} {x : Ix} {S Fm : Fc → Prop} {f : Fc}
theorem rlA_sound (hr : ∀ x ∈ ps, x.vok) (hx : x.of S Fm) (hS : ∀ y, S y → y.form) (hk : f.kind = 1 ∨ f.kind = 2 ∨ f.kind = 3) (hf : f.form) (j : Nat) (s : List Fc × List Fc) (hSs : ∀ y, S y → y ∈ s.1) (hfs : f ∈ s.1) (hs : ∀ y ∈ s.1, Der ps A y) :
    ∀ y ∈ (rl (stpA m) idk (pmOf ps) x f j s).1, Der ps A y := by
  have E : ∀ L, (∀ y ∈ L, One' ps A (· ∈ s.1) y) → ∀ y ∈ emits (stpA m) L s.1, Der ps A y := fun L hL y hy => by
    rcases emA_mem m L s.1 y hy with h | h
    · exact hs y h
    · exact Der.step ((hL y h).mono (fun x hx => ⟨x, hx, x.frm, rfl⟩) (fun _ h => h) hs (fun _ _ h => h))
  unfold rl
  split
  · rename_i h1
    split
    · exact E _ (contain_sound h1 hf hfs)
    · exact bothA_sound _ s.1 (fun z hz => by have := pm2.1 hz; exact ⟨this.1, this.2.1⟩) hs
    · exact E _ (some_sound h1 hf hfs)
    · exact E _ (fillAtom_sound hr hx hS hSs h1 hf hfs)
    · exact E _ (emptyAtom_sound hx hS hSs h1 hf hfs)
    · rw [valueF_fst]; exact E _ (value_sound h1 hf hfs)
  · split
    · rename_i h2
      split
      · exact E _ (include_sound h2 hf hfs)
      · exact E _ (chain_sound hx hS hSs h2 hf hfs)
      · exact E _ (fillLink_sound hx hS hSs h2 hf hfs)
      · simp only
        split
        · rename_i hc
          exact E [fsub f.a [33]] (fun y hy => by simp at hy; subst hy; exact emptyLink_sound h2 hf hfs hc)
        · exact hs
    · rename_i h1 h2
      have h3 : f.kind = 3 := by omega
      split
      · exact E _ (meet_sound hx hS hSs h3 hf hfs)
      · exact E _ (out_sound h3 hf hfs)
theorem rlsA_sound (hr : ∀ x ∈ ps, x.vok) (hx : x.of S Fm) (hS : ∀ y, S y → y.form) (hf : f.form) (s : List Fc × List Fc) (hSs : ∀ y, S y → y ∈ s.1) (hfs : f ∈ s.1) (hs : ∀ y ∈ s.1, Der ps A y) (j : Nat) :
    ∀ y ∈ (rls (stpA m) idk (pmOf ps) x f j s).1, Der ps A y := by
  induction j with
  | zero => exact hs
  | succ j ih => exact rlA_sound hr hx hS (form_kind hf) hf j _ (fun y hy => rls_up (growsA m) j s y (hSs y hy)) (rls_up (growsA m) j s f hfs) ih
end
/-- made of firm ones -/
inductive Fmd (fm : List Fc) : Fc → Prop
  | base {y : Fc} (h : y ∈ fm) : Fmd fm y
  | meet {y z : Fc} (hy : Fmd fm y) (hz : Fmd fm z) (ha : z.a = y.a) (hr : z.r = y.r) (hl : max y.lo z.lo ≤ min y.hi z.hi) : Fmd fm (meet1 y z)
theorem Fmd.mono {fm fm' : List Fc} (h : ∀ y ∈ fm, y ∈ fm') {y : Fc} (hy : Fmd fm y) : Fmd fm' y := by
  induction hy with
  | base h1 => exact .base (h _ h1)
  | meet _ _ ha hr hl ih1 ih2 => exact .meet ih1 ih2 ha hr hl
structure InvA (ps : List Pc) (A : List Str) (m n : Nat) (q fm : List Fc) (x : Ix) : Prop where
  nd : q.Nodup
  len : q.length ≤ m
  le : n ≤ q.length
  der : ∀ y ∈ q, Der ps A y
  form : ∀ y ∈ q, y.form
  ix : x.of (· ∈ q.take n) (· ∈ fm)
  fmq : ∀ y ∈ fm, y ∈ q ∧ y.kind = 3
  firm : ∀ y ∈ q, y.kind = 3 → Fmd fm y
  st : ∀ a ∈ A, fsub a a ∈ q ∧ fsub a [42] ∈ q ∧ ∀ z ∈ ps, z.kind = 7 → flink a z.r a ∈ q
  cl : ∀ y, One ps A (· ∈ q.take n) (fun y z => y ∈ fm ∨ z ∈ fm) y → y ∈ q
theorem Der.form {p : List Pc} {A : List Str} (hp : ∀ x ∈ p, x.vok) {y : Fc} (h : Der p A y) : y.form := h _ fun _ hz => One.form hp (fun _ h => h) hz
theorem valueF_firm {stp : Fc → List Fc → List Fc} {kof : List Fc → List Fc} (hk : ∀ i s z, z ∈ kof (stp i s) → z ∈ kof s ∨ z = i) (h : Grows stp kof) (f : Fc) : ∀ (l : List Pc) (s fm : List Fc), ∀ y ∈ l, fspan f.a y.r y.lo y.hi ∈ kof s ∨ fspan f.a y.r y.lo y.hi ∈ (valueF stp kof f l (s, fm)).2
  | [], s, fm, y, hy => by simp at hy
  | x :: l, s, fm, y, hy => by
    have e : valueF stp kof f (x :: l) (s, fm) = valueF stp kof f l (stp (fspan f.a x.r x.lo x.hi) s, if fspan f.a x.r x.lo x.hi ∈ kof s then fm else fspan f.a x.r x.lo x.hi :: fm) := rfl
    rw [e]
    by_cases he : fspan f.a y.r y.lo y.hi = fspan f.a x.r x.lo x.hi
    · rw [he]
      by_cases hc : fspan f.a x.r x.lo x.hi ∈ kof s
      · exact .inl hc
      · refine .inr ((valueF_snd h f l _ _ _).2 (.inl ?_))
        rw [if_neg hc]; simp
    · rcases List.mem_cons.1 hy with rfl | hy
      · exact absurd rfl he
      · rcases valueF_firm hk h f l (stp (fspan f.a x.r x.lo x.hi) s) (if fspan f.a x.r x.lo x.hi ∈ kof s then fm else fspan f.a x.r x.lo x.hi :: fm) y hy with h1 | h1
        · exact (hk _ _ _ h1).imp id fun q => absurd q he
        · exact .inr h1
theorem take_mem {q : List Fc} {n : Nat} {f z : Fc} (hn : q[n]? = some f) : z ∈ q.take (n + 1) ↔ z ∈ q.take n ∨ z = f := by
  rw [List.take_add_one, hn]; simp
/-- when what has been done so far is closed, and all follows that follows with one more -/
theorem cl_step {ps : List Pc} {A : List Str} {S Fm kn good : Fc → Prop} {f : Fc} (hc : Cmpl ps (fun y => S y ∨ y = f) Fm kn good f) (hkn : ∀ y, S y ∨ y = f → kn y) (h : ∀ y, One ps A S (fun y z => Fm y ∨ Fm z) y → good y) (y : Fc) (hy : One ps A (fun y => S y ∨ y = f) (fun y z => Fm y ∨ Fm z) y) : good y := by
  cases hy with
  | r1 h1 => exact h _ (.r1 h1)
  | r2 h1 => exact h _ (.r2 h1)
  | r10 hx hk h1 => exact h _ (.r10 hx hk h1)
  | r3 hx hk h1 => exact h1.elim (fun q => h _ (.r3 hx hk q)) (fun q => hc.c3 _ _ hx hk q.symm)
  | r4 hx hk h1 h2 =>
    rcases h1 with h1 | h1
    · rcases h2 with h2 | h2
      · exact h _ (.r4 hx hk h1 h2)
      · exact hc.c4' _ _ hx hk h2.symm (hkn _ (.inl h1))
    · exact hc.c4 _ _ hx hk h1.symm (hkn _ h2)
  | r5 hx hk h1 => exact h1.elim (fun q => h _ (.r5 hx hk q)) (fun q => hc.c5 _ _ hx hk q.symm)
  | r6 hx hk h1 => exact h1.elim (fun q => h _ (.r6 hx hk q)) (fun q => hc.c6 _ _ _ hx hk q.symm)
  | r7 hx hk h1 h2 =>
    rcases h1 with h1 | h1
    · rcases h2 with h2 | h2
      · exact h _ (.r7 hx hk h1 h2)
      · exact hc.c7' _ _ _ _ hx hk h2.symm (.inl h1)
    · exact hc.c7 _ _ _ _ hx hk h1.symm h2
  | r8 hx hk h1 h2 =>
    rcases h1 with h1 | h1
    · rcases h2 with h2 | h2
      · exact h _ (.r8 hx hk h1 h2)
      · exact hc.c8' _ _ _ hx hk h2.symm (.inl h1)
    · exact hc.c8 _ _ _ hx hk h1.symm h2
  | r9 h1 h2 =>
    rcases h1 with h1 | h1
    · rcases h2 with h2 | h2
      · exact h _ (.r9 h1 h2)
      · exact hc.c9' _ _ _ h2.symm (.inl h1)
    · exact hc.c9 _ _ _ h1.symm (hkn _ h2)
  | r11 hx hk h1 => exact h1.elim (fun q => h _ (.r11 hx hk q)) (fun q => hc.c11 _ _ hx hk q.symm)
  | @r12 a r lo hi lo' hi' h1 h2 hm hl =>
    rcases h1 with h1 | h1
    · rcases h2 with h2 | h2
      · exact h _ (.r12 h1 h2 hm hl)
      · have := hc.c12 (fspan a r lo hi) (by rw [← h2]; rfl) (.inl h1) rfl (by rw [← h2]; rfl) (by rw [← h2]; rfl) (by rw [← h2]; exact hm.symm) (by rw [← h2]; simp only [fspan]; omega)
        rw [← h2] at this
        rw [Int.max_comm, Int.min_comm]; exact this
    · have := hc.c12 (fspan a r lo' hi') (by rw [← h1]; rfl) h2 rfl (by rw [← h1]; rfl) (by rw [← h1]; rfl) (by rw [← h1]; exact hm) (by rw [← h1]; exact hl)
      rw [← h1] at this
      exact this
  | @r13 a r lo hi lo' hi' h1 h2 hm hl =>
    rcases h1 with h1 | h1
    · rcases h2 with h2 | h2
      · exact h _ (.r13 h1 h2 hm hl)
      · have := hc.c13 (fspan a r lo hi) (by rw [← h2]; rfl) (.inl h1) rfl (by rw [← h2]; rfl) (by rw [← h2]; rfl) (by rw [← h2]; exact hm.symm) (by rw [← h2]; simp only [fspan]; omega)
        rw [← h2] at this
        exact this
    · have := hc.c13 (fspan a r lo' hi') (by rw [← h1]; rfl) h2 rfl (by rw [← h1]; rfl) (by rw [← h1]; rfl) (by rw [← h1]; exact hm) (by rw [← h1]; exact hl)
      rw [← h1] at this
      exact this
  | r14 hx hk h1 g1 g2 => exact h1.elim (fun q => h _ (.r14 hx hk q g1 g2)) (fun q => hc.c14 _ _ _ _ hx hk q.symm g1 g2)
theorem One.congrM {p : List Pc} {A : List Str} {S : Fc → Prop} {M M' : Fc → Fc → Prop} (hM : ∀ y z, S y → S z → M y z → M' y z) {y : Fc} (h : One p A S M y) : One p A S M' y := by
  cases h with
  | r1 h => exact .r1 h
  | r2 h => exact .r2 h
  | r10 hx hk h => exact .r10 hx hk h
  | r3 hx hk h => exact .r3 hx hk h
  | r4 hx hk h h' => exact .r4 hx hk h h'
  | r5 hx hk h => exact .r5 hx hk h
  | r6 hx hk h => exact .r6 hx hk h
  | r7 hx hk h h' => exact .r7 hx hk h h'
  | r8 hx hk h h' => exact .r8 hx hk h h'
  | r9 h h' => exact .r9 h h'
  | r11 hx hk h => exact .r11 hx hk h
  | r12 h h' hm hl => exact .r12 h h' (hM _ _ h h' hm) hl
  | r13 h h' hm hl => exact .r13 h h' (hM _ _ h h' hm) hl
  | r14 hx hk h h1 h2 => exact .r14 hx hk h h1 h2
section
variable {ps : List Pc} {A : List Str} {m n : Nat} {q fm : List Fc} {x : Ix} {f : Fc}
theorem rlsA_pre (j k : Nat) (s : List Fc × List Fc) : ∃ t, (rls (stpA m) idk (pmOf ps) x f (j + k) s).1 = (rls (stpA m) idk (pmOf ps) x f j s).1 ++ t := by
  induction k with
  | zero => exact ⟨[], by simp⟩
  | succ k ih =>
    obtain ⟨t, h⟩ := ih
    obtain ⟨L, h'⟩ := rl_emits (ps := ps) (x := x) (f := f) (growsA m) (j + k) (rls (stpA m) idk (pmOf ps) x f (j + k) s)
    obtain ⟨u, h''⟩ := emA_pre m L (rls (stpA m) idk (pmOf ps) x f (j + k) s).1
    exact ⟨t ++ u, by rw [← Nat.add_assoc, rls, h', h'', h, List.append_assoc]⟩
/-- which of the rules make ranges -/
theorem rlA_kind (j : Nat) (s : List Fc × List Fc) (h : f.kind = 1 → j ≤ 4) (h3 : f.kind = 3 → j ≠ 0) (hk : f.kind = 1 ∨ f.kind = 2 ∨ f.kind = 3) : ∀ y ∈ (rl (stpA m) idk (pmOf ps) x f j s).1, y.kind = 3 → y ∈ s.1 := by
  have E : ∀ L : List Fc, (∀ y ∈ L, y.kind ≠ 3) → ∀ y ∈ emits (stpA m) L s.1, y.kind = 3 → y ∈ s.1 := fun L hL y hy hk =>
    (emA_mem m L s.1 y hy).elim id fun q => absurd hk (hL y q)
  have mp : ∀ {α : Type} (l : List α) (g : α → Fc), (∀ a, (g a).kind ≠ 3) → ∀ y ∈ l.map g, y.kind ≠ 3 := fun l g hg y hy => by
    obtain ⟨a, _, rfl⟩ := List.mem_map.1 hy; exact hg a
  have fmp : ∀ {α β : Type} (l : List α) (k : α → List β) (g : α → β → Fc), (∀ a b, (g a b).kind ≠ 3) → ∀ y ∈ l.flatMap (fun a => (k a).map (g a)), y.kind ≠ 3 := fun l k g hg y hy => by
    obtain ⟨a, _, hy⟩ := List.mem_flatMap.1 hy
    exact mp _ _ (hg a) y hy
  unfold rl
  split
  · rename_i h1
    split
    · exact E _ (mp _ _ fun _ => by simp [fsub])
    · obtain ⟨L, e1, e2, _⟩ := bothF_emits (growsA m) f (lat (pmOf ps) ⟨2, [], f.b⟩) s.1
      rw [e1]
      exact E L fun y hy => by obtain ⟨_, _, rfl, _⟩ := e2 y hy; simp [fsub]
    · exact E _ (mp _ _ fun _ => by simp [flink])
    · exact E _ (fmp _ _ _ fun _ _ => by simp [fsub])
    · refine E _ fun y hy => ?_
      unfold emptyAtomL at hy
      split at hy
      · exact mp _ _ (fun _ => by simp [fsub]) y hy
      · simp at hy
    · have := h h1
      rename_i a1 a2 a3 a4 a5
      have hj : j = 0 ∨ j = 1 ∨ j = 2 ∨ j = 3 ∨ j = 4 := by omega
      rcases hj with hj | hj | hj | hj | hj
      · exact (a1 hj).elim
      · exact (a2 hj).elim
      · exact (a3 hj).elim
      · exact (a4 hj).elim
      · exact (a5 hj).elim
  · split
    · split
      · exact E _ (mp _ _ fun _ => by simp [flink])
      · refine E _ fun y hy => ?_
        rcases List.mem_append.1 hy with hy | hy
        · exact fmp _ _ _ (fun _ _ => by simp [flink]) y hy
        · exact fmp _ _ _ (fun _ _ => by simp [flink]) y hy
      · exact E _ (fmp _ _ _ fun _ _ => by simp [fsub])
      · simp only
        split
        · exact E [fsub f.a [33]] (by simp [fsub])
        · exact fun y hy _ => hy
    · rename_i h1 h2
      split
      · exact absurd rfl (h3 (by omega))
      · exact E _ (mp _ _ fun _ => by simp [fsub])
theorem rlsA_kind (j : Nat) (s : List Fc × List Fc) (h : f.kind = 1 → j ≤ 5) (h3 : f.kind ≠ 3) (hk : f.kind = 1 ∨ f.kind = 2 ∨ f.kind = 3) : ∀ y ∈ (rls (stpA m) idk (pmOf ps) x f j s).1, y.kind = 3 → y ∈ s.1 := by
  induction j with
  | zero => exact fun y hy _ => hy
  | succ j ih => exact fun y hy hk3 => ih (fun hh => by have := h hh; omega) y (rlA_kind j _ (fun hh => by have := h hh; omega) (fun hh => absurd hh h3) hk y hy hk3) hk3
theorem inv_step (hr : ∀ x ∈ ps, x.vok) (inv : InvA ps A m n q fm x) (hn : q[n]? = some f) {s' : List Fc × List Fc} (hs : rls (stpA m) idk (pmOf ps) (x.add (decide (f ∈ fm)) f) f (nrl f) (q, fm) = s') (hl : s'.1.length ≤ m) :
    InvA ps A m (n + 1) s'.1 s'.2 (x.add (decide (f ∈ fm)) f) := by
  have hfq : f ∈ q := List.mem_of_getElem? hn
  have hlt : n < q.length := (List.getElem?_eq_some_iff.1 hn).1
  have hform := inv.form f hfq
  have hk := form_kind hform
  have hx' : (x.add (decide (f ∈ fm)) f).of (fun y => y ∈ q.take n ∨ y = f) (· ∈ fm) := Ix.of_add inv.ix f (by simp)
  have hSq : ∀ y, (y ∈ q.take n ∨ y = f) → y ∈ q := fun y hy => hy.elim (fun h => List.mem_of_mem_take h) (fun h => h ▸ hfq)
  obtain ⟨L, hL⟩ := rls_emits (ps := ps) (x := x.add (decide (f ∈ fm)) f) (f := f) (growsA m) (nrl f) (q, fm)
  rw [hs] at hL
  obtain ⟨t, ht⟩ := emA_pre m L q
  have hpre : s'.1 = q ++ t := by rw [hL]; exact ht
  have hsub : ∀ y ∈ q, y ∈ s'.1 := fun y hy => by rw [hpre]; exact List.mem_append_left _ hy
  have htake : s'.1.take (n + 1) = q.take (n + 1) := by rw [hpre, List.take_append_of_le_length (by omega)]
  have hmem : ∀ y, y ∈ s'.1.take (n + 1) ↔ (y ∈ q.take n ∨ y = f) := fun y => by rw [htake]; exact take_mem hn
  have hder : ∀ y ∈ s'.1, Der ps A y := by rw [← hs]; exact rlsA_sound hr hx' (fun y hy => inv.form y (hSq y hy)) hform (q, fm) hSq hfq inv.der (nrl f)
  have H : ∀ j, j < nrl f → ∀ L, (rls (stpA m) idk (pmOf ps) (x.add (decide (f ∈ fm)) f) f (j + 1) (q, fm)).1 = emits (stpA m) L (rls (stpA m) idk (pmOf ps) (x.add (decide (f ∈ fm)) f) f j (q, fm)).1 → ∀ y ∈ L, y ∈ s'.1 := by
    intro j hj L hL y hy
    obtain ⟨u, hu⟩ := rlsA_pre (m := m) (ps := ps) (x := x.add (decide (f ∈ fm)) f) (f := f) (j + 1) (nrl f - (j + 1)) (q, fm)
    rw [show j + 1 + (nrl f - (j + 1)) = nrl f by omega, hs] at hu
    have hle : (rls (stpA m) idk (pmOf ps) (x.add (decide (f ∈ fm)) f) f (j + 1) (q, fm)).1.length ≤ m := by rw [hu, List.length_append] at hl; omega
    rw [hL] at hle
    have := emA_all m L _ hle y hy
    rw [hu, hL]
    exact List.mem_append_left _ this
  have hc := rls_cmpl (growsA m) hr hx' (q, fm) (fun _ _ => Iff.rfl) (.inr rfl) hSq (· ∈ s'.1) (fun y hy => hsub y (hSq y hy)) H
  -- the firm ones
  have hfm : (∀ y ∈ fm, y ∈ s'.2) ∧ (∀ y ∈ s'.2, y ∈ fm ∨ (y ∉ q ∧ y ∈ s'.1 ∧ y.kind = 3)) ∧ (∀ y ∈ s'.1, y.kind = 3 → y ∈ q ∨ y ∈ s'.2 ∨ ∃ z, (z ∈ q.take n ∨ z = f) ∧ z.kind = 3 ∧ f.kind = 3 ∧ z.a = f.a ∧ z.r = f.r ∧ max f.lo z.lo ≤ min f.hi z.hi ∧ y = meet1 f z) := by
    by_cases h1 : f.kind = 1
    · have e6 : nrl f = 5 + 1 := by simp [nrl, h1]
      rw [e6, rls] at hs
      have hf5 : (rls (stpA m) idk (pmOf ps) (x.add (decide (f ∈ fm)) f) f 5 (q, fm)).2 = fm := rls_firm 5 (q, fm) (fun _ => Nat.le_refl _)
      have hk5 := rlsA_kind (m := m) (ps := ps) (x := x.add (decide (f ∈ fm)) f) (f := f) 5 (q, fm) (fun _ => Nat.le_refl _) (by omega) hk
      have hq5 : ∀ y ∈ q, y ∈ (rls (stpA m) idk (pmOf ps) (x.add (decide (f ∈ fm)) f) f 5 (q, fm)).1 := fun y hy => rls_up (growsA m) 5 (q, fm) y hy
      have H5 := H 5 (by omega)
      rw [rls] at H5
      generalize rls (stpA m) idk (pmOf ps) (x.add (decide (f ∈ fm)) f) f 5 (q, fm) = s5 at hs hf5 hk5 hq5 H5
      have er : rl (stpA m) idk (pmOf ps) (x.add (decide (f ∈ fm)) f) f 5 s5 = valueF (stpA m) idk f (lat (pmOf ps) ⟨8, [], f.b⟩) s5 := by rw [rl.eq_def, if_pos h1] <;> rfl
      rw [er] at hs H5
      have es5 : s5 = (s5.1, fm) := by rw [← hf5]
      rw [es5] at hs H5
      have Hv := H5 _ (valueF_fst (stpA m) idk f _ s5.1 fm)
      refine ⟨fun y hy => ?_, fun y hy => ?_, fun y hy hy3 => ?_⟩
      · rw [← hs]; exact (valueF_snd (growsA m) f _ _ _ _).2 (.inl hy)
      · rw [← hs] at hy
        rcases (valueF_snd (growsA m) f _ _ _ _).1 hy with h | h
        · exact .inl h
        · rcases valueF_new f _ _ _ _ h.2 with g | ⟨z, hz, rfl⟩
          · exact .inl g
          · exact .inr ⟨fun hq => h.1 (hq5 _ hq), Hv _ (List.mem_map.2 ⟨z, hz, rfl⟩), rfl⟩
      · have hy' := hy
        rw [← hs, valueF_fst] at hy
        rcases emA_mem m _ _ y hy with h | h
        · exact .inl (hk5 y h hy3)
        · obtain ⟨z, hz, rfl⟩ := List.mem_map.1 h
          rcases valueF_firm (stp := stpA m) (kof := idk) (fun i s z hz => (emA_mem m [i] s z hz).imp id (by simp)) (growsA m) f _ s5.1 fm z hz with g | g
          · exact .inl (hk5 _ g rfl)
          · exact .inr (.inl (by rw [← hs]; exact g))
    · have hf2 : s'.2 = fm := by rw [← hs]; exact rls_firm _ (q, fm) (fun h => absurd h h1)
      refine ⟨fun y hy => by rw [hf2]; exact hy, fun y hy => .inl (by rw [← hf2]; exact hy), fun y hy hy3 => ?_⟩
      by_cases h3 : f.kind = 3
      · have e2 : nrl f = 0 + 1 + 1 := by simp [nrl, h3]
        rw [e2, rls] at hs
        rw [← hs] at hy
        have hy1 := rlA_kind 1 _ (fun h => absurd h h1) (fun _ => by decide) hk y hy hy3
        rw [rls, rl.eq_def, if_neg h1, if_neg (by omega)] at hy1
        rcases emA_mem m _ _ y hy1 with h | h
        · exact .inl h
        · rcases List.mem_append.1 h with h | h
          · obtain ⟨z, hz, rfl⟩ := List.mem_map.1 h
            obtain ⟨hz, hcc⟩ := List.mem_filter.1 hz
            obtain ⟨g1, g2, g3, g4⟩ := meetR_mem hx' hz
            simp only [apart, Bool.and_eq_true, Bool.not_eq_true', decide_eq_false_iff_not, Int.not_lt] at hcc
            exact .inr (.inr ⟨z, g1, g2, h3, g3, g4, hcc.1, rfl⟩)
          · unfold meetE at h
            split at h
            · simp at h; rw [h] at hy3; simp [fsub] at hy3
            · simp at h
      · rw [← hs] at hy
        exact .inl (rlsA_kind _ _ (fun h => absurd h h1) h3 hk y hy hy3)
  have hSfm : ∀ y, (y ∈ q.take n ∨ y = f) → (y ∈ fm ↔ y ∈ s'.2) := fun y hy => ⟨fun h => hfm.1 y h, fun h => (hfm.2.1 y h).elim id fun g => absurd (hSq y hy) g.1⟩
  refine ⟨?_, hl, ?_, hder, fun y hy => (hder y hy).form hr, ?_, ?_, ?_, ?_, ?_⟩
  · rw [hL]; exact emA_nodup m L q inv.nd
  · rw [hpre, List.length_append]; omega
  · have := Ix.of_firm hx' hSfm
    have e : (fun y => y ∈ s'.1.take (n + 1)) = (fun y => y ∈ q.take n ∨ y = f) := funext fun y => propext (hmem y)
    rw [e]; exact this
  · intro y hy
    rcases hfm.2.1 y hy with h | h
    · exact ⟨hsub y (inv.fmq y h).1, (inv.fmq y h).2⟩
    · exact h.2
  · intro y hy hk3
    rcases hfm.2.2 y hy hk3 with h | h | ⟨z, h1, h2, h3, h4, h5, h6, rfl⟩
    · exact (inv.firm y h hk3).mono hfm.1
    · exact .base h
    · exact .meet ((inv.firm f hfq h3).mono hfm.1) ((inv.firm z (hSq z h1) h2).mono hfm.1) h4 h5 h6
  · intro a ha
    obtain ⟨g1, g2, g3⟩ := inv.st a ha
    exact ⟨hsub _ g1, hsub _ g2, fun z hz hk => hsub _ (g3 z hz hk)⟩
  · intro y hy
    have e : (fun y => y ∈ s'.1.take (n + 1)) = (fun y => y ∈ q.take n ∨ y = f) := funext fun y => propext (hmem y)
    rw [e] at hy
    refine cl_step (A := A) hc hSq (fun z hz => hsub z (inv.cl z hz)) y (hy.congrM fun u v hu hv hm => hm.imp (hSfm u hu).2 (hSfm v hv).2)
theorem mm_le {a b c d e g : Int} (h : max a (max b c) ≤ min d (min e g)) : max a b ≤ min d e := by omega
theorem inv_done (inv : InvA ps A m q.length q fm x) (y : Fc) : Der ps A y ↔ y ∈ q := by
  refine ⟨fun h => h.least fun y hy => ?_, inv.der y⟩
  have hcl : ∀ y, One ps A (· ∈ q) (fun y z => y ∈ fm ∨ z ∈ fm) y → y ∈ q := fun y hy => inv.cl y (by rw [List.take_length]; exact hy)
  have key : ∀ f, Fmd fm f → ∀ z ∈ q, z.kind = 3 → z.a = f.a → z.r = f.r → (max z.lo f.lo ≤ min z.hi f.hi → meet1 z f ∈ q) ∧ (min z.hi f.hi < max z.lo f.lo → fsub z.a [33] ∈ q) := by
    intro f hf
    induction hf with
    | @base f hb =>
      intro z hz hk ha hr'
      obtain ⟨hfq, hfk⟩ := inv.fmq f hb
      have ez := (form3 (inv.form z hz) hk).1
      have ef := (form3 (inv.form f hfq) hfk).1
      rw [← ha, ← hr'] at ef
      refine ⟨fun hl => hcl _ (.r12 (by rw [← ez]; exact hz) (by rw [← ef]; exact hfq) (.inr (by rw [← ef]; exact hb)) hl), fun hl => hcl _ (.r13 (r := z.r) (by rw [← ez]; exact hz) (by rw [← ef]; exact hfq) (.inr (by rw [← ef]; exact hb)) hl)⟩
    | @meet y w hy hw ha hr' hl ih1 ih2 =>
      intro z hz hk hza hzr
      have hza' : z.a = y.a := hza
      have hzr' : z.r = y.r := hzr
      obtain ⟨i1, i2⟩ := ih1 z hz hk hza' hzr'
      have hlo : (meet1 y w).lo = max y.lo w.lo := rfl
      have hhi : (meet1 y w).hi = min y.hi w.hi := rfl
      rw [hlo, hhi]
      by_cases hc : max z.lo y.lo ≤ min z.hi y.hi
      · have h1 := i1 hc
        obtain ⟨j1, j2⟩ := ih2 (meet1 z y) h1 rfl (by rw [ha, ← hza']; rfl) (by rw [hr', ← hzr']; rfl)
        have e1 : (meet1 z y).lo = max z.lo y.lo := rfl
        have e2 : (meet1 z y).hi = min z.hi y.hi := rfl
        rw [e1, e2] at j1 j2
        refine ⟨fun hl' => ?_, fun hl' => j2 (by rw [Int.max_assoc, Int.min_assoc]; exact hl')⟩
        have := j1 (by rw [Int.max_assoc, Int.min_assoc]; exact hl')
        have e : meet1 (meet1 z y) w = meet1 z (meet1 y w) := by
          simp only [meet1, fspan]
          rw [Int.max_assoc, Int.min_assoc]
        rw [← e]; exact this
      · exact ⟨fun hl' => absurd (mm_le hl') hc, fun _ => i2 (Int.not_le.1 hc)⟩
  have key2 : ∀ {a r : Str} {lo hi lo' hi' : Int}, fspan a r lo hi ∈ q → fspan a r lo' hi' ∈ q → (max lo lo' ≤ min hi hi' → fspan a r (max lo lo') (min hi hi') ∈ q) ∧ (min hi hi' < max lo lo' → fsub a [33] ∈ q) := fun h h' => key _ (inv.firm _ h' rfl) _ h rfl rfl rfl
  cases hy with
  | r1 h => exact hcl _ (.r1 h)
  | r2 h => exact hcl _ (.r2 h)
  | r10 hx hk h => exact hcl _ (.r10 hx hk h)
  | r3 hx hk h => exact hcl _ (.r3 hx hk h)
  | r4 hx hk h h' => exact hcl _ (.r4 hx hk h h')
  | r5 hx hk h => exact hcl _ (.r5 hx hk h)
  | r6 hx hk h => exact hcl _ (.r6 hx hk h)
  | r7 hx hk h h' => exact hcl _ (.r7 hx hk h h')
  | r8 hx hk h h' => exact hcl _ (.r8 hx hk h h')
  | r9 h h' => exact hcl _ (.r9 h h')
  | r11 hx hk h => exact hcl _ (.r11 hx hk h)
  | r12 h h' hm hl => exact (key2 h h').1 hl
  | r13 h h' hm hl => exact (key2 h h').2 hl
  | r14 hx hk h h1 h2 => exact hcl _ (.r14 hx hk h h1 h2)
end
def beginL (loops : List Str) (A : List Str) : List Fc := A.flatMap fun a => fsub a a :: fsub a [42] :: loops.map fun r => flink a r a
theorem begin_sound {ps : List Pc} {A : List Str} {S : Fc → Prop} {M : Fc → Fc → Prop} : ∀ y ∈ beginL (loopsOf ps) A, One ps A S M y := by
  intro y hy
  obtain ⟨a, ha, hy⟩ := List.mem_flatMap.1 hy
  simp only [List.mem_cons] at hy
  rcases hy with rfl | rfl | hy
  · exact .r1 ha
  · exact .r2 ha
  · obtain ⟨r, hr, rfl⟩ := List.mem_map.1 hy
    obtain ⟨z, hz, rfl⟩ := List.mem_map.1 hr
    obtain ⟨h1, h2⟩ := List.mem_filter.1 hz
    exact .r10 h1 (of_decide_eq_true h2) ha
theorem begin_all {ps : List Pc} {A : List Str} {a : Str} (ha : a ∈ A) : fsub a a ∈ beginL (loopsOf ps) A ∧ fsub a [42] ∈ beginL (loopsOf ps) A ∧ ∀ z ∈ ps, z.kind = 7 → flink a z.r a ∈ beginL (loopsOf ps) A := by
  refine ⟨List.mem_flatMap.2 ⟨a, ha, by simp⟩, List.mem_flatMap.2 ⟨a, ha, by simp⟩, fun z hz hk => List.mem_flatMap.2 ⟨a, ha, ?_⟩⟩
  exact List.mem_cons_of_mem _ (List.mem_cons_of_mem _ (List.mem_map.2 ⟨z.r, List.mem_map.2 ⟨z, List.mem_filter.2 ⟨hz, decide_eq_true hk⟩, rfl⟩, rfl⟩))
structure LoopA (ps : List Pc) (A : List Str) (m n : Nat) (q fm : List Fc) (x : Ix) : Prop where
  nd : q.Nodup
  len : q.length ≤ m + 1
  le : n ≤ q.length
  der : ∀ y ∈ q, Der ps A y
  ix : x.of (· ∈ q.take n) (· ∈ fm)
  inv : q.length ≤ m → InvA ps A m n q fm x
section
variable {ps : List Pc} {A : List Str} {m n : Nat} {q fm : List Fc} {x : Ix} {f : Fc}
theorem loopA_start (hr : ∀ x ∈ ps, x.vok) {q : List Fc} (hq : emits (stpA m) (beginL (loopsOf ps) A) [] = q) : LoopA ps A m 0 q [] Ix.nil := by
  have hmem : ∀ y ∈ q, y ∈ beginL (loopsOf ps) A := fun y hy => by rw [← hq] at hy; exact (emA_mem m _ _ y hy).elim (fun h => by simp at h) id
  have hder : ∀ y ∈ q, Der ps A y := fun y hy => Der.step (begin_sound y (hmem y hy))
  have hnd : q.Nodup := by rw [← hq]; exact emA_nodup m _ _ List.nodup_nil
  have hix : Ix.nil.of (· ∈ q.take 0) (· ∈ ([] : List Fc)) := by
    have e : (fun y => y ∈ q.take 0) = (fun _ => False) := funext fun y => by simp
    rw [e]; exact Ix.of_nil _
  refine ⟨hnd, by rw [← hq]; exact emA_len m _ _ (by simp), Nat.zero_le _, hder, hix, fun hl => ⟨hnd, hl, Nat.zero_le _, hder, fun y hy => (hder y hy).form hr, hix, by simp, fun y hy hk => ?_, fun a ha => ?_, fun y hy => ?_⟩⟩
  · exfalso
    obtain ⟨a, _, h⟩ := List.mem_flatMap.1 (hmem y hy)
    simp only [List.mem_cons] at h
    rcases h with rfl | rfl | h
    · simp [fsub] at hk
    · simp [fsub] at hk
    · obtain ⟨r, _, rfl⟩ := List.mem_map.1 h
      simp [flink] at hk
  · obtain ⟨g1, g2, g3⟩ := begin_all (ps := ps) ha
    rw [← hq] at hl ⊢
    exact ⟨emA_all m _ _ hl _ g1, emA_all m _ _ hl _ g2, fun z hz hk => emA_all m _ _ hl _ (g3 z hz hk)⟩
  · rw [← hq] at hl
    have B : ∀ a ∈ A, _ := fun a ha => begin_all (ps := ps) ha
    have hin : ∀ z ∈ beginL (loopsOf ps) A, z ∈ q := fun z hz => by rw [← hq]; exact emA_all m _ _ hl z hz
    cases hy with
    | r1 h => exact hin _ (B _ h).1
    | r2 h => exact hin _ (B _ h).2.1
    | r10 hx hk h => exact hin _ ((B _ h).2.2 _ hx hk)
    | r3 hx hk h => simp at h
    | r4 hx hk h h' => simp at h
    | r5 hx hk h => simp at h
    | r6 hx hk h => simp at h
    | r7 hx hk h h' => simp at h
    | r8 hx hk h h' => simp at h
    | r9 h h' => simp at h
    | r11 hx hk h => simp at h
    | r12 h h' hm hl => simp at h
    | r13 h h' hm hl => simp at h
    | r14 hx hk h h1 h2 => simp at h
theorem loopA_rule (hr : ∀ x ∈ ps, x.vok) (h : LoopA ps A m n q fm x) (hn : q[n]? = some f) (j : Nat) {s' : List Fc × List Fc} (hs : rls (stpA m) idk (pmOf ps) (x.add (decide (f ∈ fm)) f) f j (q, fm) = s') :
    s'.1.Nodup ∧ s'.1.length ≤ m + 1 ∧ (∀ y ∈ s'.1, Der ps A y) ∧ ∃ t, s'.1 = q ++ t := by
  have hfq : f ∈ q := List.mem_of_getElem? hn
  have hSq : ∀ y, (y ∈ q.take n ∨ y = f) → y ∈ q := fun y hy => hy.elim (fun h => List.mem_of_mem_take h) (fun h => h ▸ hfq)
  obtain ⟨L, hL⟩ := rls_emits (ps := ps) (x := x.add (decide (f ∈ fm)) f) (f := f) (growsA m) j (q, fm)
  rw [hs] at hL
  refine ⟨by rw [hL]; exact emA_nodup m L q h.nd, by rw [hL]; exact emA_len m L q h.len, ?_, by rw [hL]; exact emA_pre m L q⟩
  rw [← hs]
  exact rlsA_sound hr (Ix.of_add h.ix f (by simp)) (fun y hy => (h.der y (hSq y hy)).form hr) ((h.der f hfq).form hr) (q, fm) hSq hfq h.der j
theorem loopA_next (hr : ∀ x ∈ ps, x.vok) (h : LoopA ps A m n q fm x) (hn : q[n]? = some f) {s' : List Fc × List Fc} (hs : rls (stpA m) idk (pmOf ps) (x.add (decide (f ∈ fm)) f) f (nrl f) (q, fm) = s') (hl : s'.1.length ≤ m) :
    LoopA ps A m (n + 1) s'.1 s'.2 (x.add (decide (f ∈ fm)) f) := by
  obtain ⟨_, _, _, t, ht⟩ := loopA_rule hr h hn (nrl f) hs
  have hi := inv_step hr (h.inv (by rw [ht, List.length_append] at hl; omega)) hn hs hl
  exact ⟨hi.nd, by have := hi.len; omega, hi.le, hi.der, hi.ix, fun _ => hi⟩
theorem loopA_done (h : LoopA ps A m q.length q fm x) (hl : q.length ≤ m) (y : Fc) : Der ps A y ↔ y ∈ q := inv_done (h.inv hl) y
end
theorem zf_eq (x : Pc) : ∃ n, { x.zf with frm := n } = x := ⟨x.frm, rfl⟩
theorem uniq_der {p : List Pc} {A : List Str} {y : Fc} : Der (uniq [] p) A y ↔ Der p A y := by
  constructor
  · refine Der.mono (fun x hx => ?_) (fun _ h => h)
    rcases (uniq_mem p [] x).1 hx with h | ⟨z, hz, rfl⟩
    · simp at h
    · exact ⟨z, hz, 0, rfl⟩
  · exact Der.mono (fun x hx => ⟨x.zf, (uniq_mem p [] _).2 (.inr ⟨x, hx, rfl⟩), zf_eq x⟩) (fun _ h => h)
theorem uniq_one {p : List Pc} {A : List Str} {S : Fc → Prop} {y : Fc} : One' (uniq [] p) A S y ↔ One' p A S y := by
  constructor
  · refine One.mono (fun x hx => ?_) (fun _ h => h) (fun _ h => h) (fun _ _ h => h)
    rcases (uniq_mem p [] x).1 hx with h | ⟨z, hz, rfl⟩
    · simp at h
    · exact ⟨z, hz, 0, rfl⟩
  · exact One.mono (fun x hx => ⟨x.zf, (uniq_mem p [] _).2 (.inr ⟨x, hx, rfl⟩), zf_eq x⟩) (fun _ h => h) (fun _ h => h) (fun _ _ h => h)
theorem uniq_vok {p : List Pc} (h : ∀ x ∈ p, x.vok) : ∀ x ∈ uniq [] p, x.vok := fun x hx => by
  rcases (uniq_mem p [] x).1 hx with h1 | ⟨z, hz, rfl⟩
  · simp at h1
  · exact ⟨(h z hz).rok, (h z hz).num⟩
def Fc.lt (x y : Fc) : Prop := x.kind < y.kind ∨ x.kind = y.kind ∧ (x.a < y.a ∨ x.a = y.a ∧ (x.b < y.b ∨ x.b = y.b ∧ (x.r < y.r ∨ x.r = y.r ∧ (x.lo < y.lo ∨ x.lo = y.lo ∧ x.hi < y.hi))))
instance (x y : Fc) : Decidable (Fc.lt x y) := by unfold Fc.lt; exact inferInstance
theorem str_irr (x : Str) : ¬ x < x := List.lt_irrefl x
theorem str_tri (x y : Str) : x < y ∨ x = y ∨ y < x := by
  by_cases h : x < y
  · exact .inl h
  · by_cases h' : y < x
    · exact .inr (.inr h')
    · exact .inr (.inl (List.le_antisymm (List.not_lt.1 h') (List.not_lt.1 h)))
theorem Fc.lt_irr (x : Fc) : ¬ x.lt x := by
  unfold Fc.lt
  simp [str_irr]
theorem Fc.lt_tri (x y : Fc) : x.lt y ∨ x = y ∨ y.lt x := by
  unfold Fc.lt
  rcases Int.lt_trichotomy x.kind y.kind with h | h | h
  · exact .inl (.inl h)
  · rcases str_tri x.a y.a with h1 | h1 | h1
    · exact .inl (.inr ⟨h, .inl h1⟩)
    · rcases str_tri x.b y.b with h2 | h2 | h2
      · exact .inl (.inr ⟨h, .inr ⟨h1, .inl h2⟩⟩)
      · rcases str_tri x.r y.r with h3 | h3 | h3
        · exact .inl (.inr ⟨h, .inr ⟨h1, .inr ⟨h2, .inl h3⟩⟩⟩)
        · rcases Int.lt_trichotomy x.lo y.lo with h4 | h4 | h4
          · exact .inl (.inr ⟨h, .inr ⟨h1, .inr ⟨h2, .inr ⟨h3, .inl h4⟩⟩⟩⟩)
          · rcases Int.lt_trichotomy x.hi y.hi with h5 | h5 | h5
            · exact .inl (.inr ⟨h, .inr ⟨h1, .inr ⟨h2, .inr ⟨h3, .inr ⟨h4, h5⟩⟩⟩⟩⟩)
            · refine .inr (.inl ?_); cases x; cases y; simp_all
            · exact .inr (.inr (.inr ⟨h.symm, .inr ⟨h1.symm, .inr ⟨h2.symm, .inr ⟨h3.symm, .inr ⟨h4.symm, h5⟩⟩⟩⟩⟩))
          · exact .inr (.inr (.inr ⟨h.symm, .inr ⟨h1.symm, .inr ⟨h2.symm, .inr ⟨h3.symm, .inl h4⟩⟩⟩⟩))
        · exact .inr (.inr (.inr ⟨h.symm, .inr ⟨h1.symm, .inr ⟨h2.symm, .inl h3⟩⟩⟩))
      · exact .inr (.inr (.inr ⟨h.symm, .inr ⟨h1.symm, .inl h2⟩⟩))
    · exact .inr (.inr (.inr ⟨h.symm, .inl h1⟩))
  · exact .inr (.inr (.inl h))
theorem lex_trans {α : Type} {lt : α → α → Prop} (ht : ∀ {x y z}, lt x y → lt y z → lt x z) {x y z : α} {P Q R : Prop} (hr : x = y → y = z → P → Q → R) (h1 : lt x y ∨ x = y ∧ P) (h2 : lt y z ∨ y = z ∧ Q) : lt x z ∨ x = z ∧ R := by
  rcases h1 with h1 | ⟨rfl, h1⟩
  · rcases h2 with h2 | ⟨rfl, h2⟩
    · exact .inl (ht h1 h2)
    · exact .inl h1
  · rcases h2 with h2 | ⟨rfl, h2⟩
    · exact .inl h2
    · exact .inr ⟨rfl, hr rfl rfl h1 h2⟩
theorem Fc.lt_trans {x y z : Fc} (h1 : x.lt y) (h2 : y.lt z) : x.lt z :=
  lex_trans (lt := fun a b : Int => a < b) Int.lt_trans (fun _ _ => lex_trans (lt := fun a b : Str => a < b) List.lt_trans (fun _ _ => lex_trans (lt := fun a b : Str => a < b) List.lt_trans (fun _ _ => lex_trans (lt := fun a b : Str => a < b) List.lt_trans (fun _ _ => lex_trans (lt := fun a b : Int => a < b) Int.lt_trans fun _ _ => Int.lt_trans)))) h1 h2
/-- two strictly sorted lists with the same elements are the same -/
theorem sorted_ext {α : Type} {lt : α → α → Prop} (hi : ∀ x, ¬ lt x x) (ht : ∀ {x y z}, lt x y → lt y z → lt x z) : ∀ {l m : List α}, l.Pairwise lt → m.Pairwise lt → (∀ x, x ∈ l ↔ x ∈ m) → l = m
  | [], [], _, _, _ => rfl
  | [], y :: m, _, _, h => by have := (h y).2 (by simp); simp at this
  | x :: l, [], _, _, h => by have := (h x).1 (by simp); simp at this
  | x :: l, y :: m, h1, h2, h => by
    rw [List.pairwise_cons] at h1 h2
    have e : x = y := by
      rcases List.mem_cons.1 ((h x).1 (by simp)) with e | hx
      · exact e
      · rcases List.mem_cons.1 ((h y).2 (by simp)) with e | hy
        · exact e.symm
        · exact absurd (ht (h1.1 y hy) (h2.1 x hx)) (hi x)
    subst e
    congr 1
    refine sorted_ext hi ht h1.2 h2.2 fun z => ⟨fun hz => ?_, fun hz => ?_⟩
    · rcases List.mem_cons.1 ((h z).1 (by simp [hz])) with rfl | q
      · exact absurd (h1.1 z hz) (hi z)
      · exact q
    · rcases List.mem_cons.1 ((h z).2 (by simp [hz])) with rfl | q
      · exact absurd (h2.1 z hz) (hi z)
      · exact q
abbrev Srt (l : List Fc) : Prop := l.Pairwise Fc.lt
theorem Srt.ext {l m : List Fc} (h1 : Srt l) (h2 : Srt m) (h : ∀ x, x ∈ l ↔ x ∈ m) : l = m := sorted_ext Fc.lt_irr Fc.lt_trans h1 h2 h
theorem Srt.nodup {l : List Fc} (h : Srt l) : l.Nodup := by
  unfold List.Nodup
  refine List.Pairwise.imp ?_ h
  intro a b hab e
  exact Fc.lt_irr b (e ▸ hab)
/-- what All answers, for a number of facts that is permitted: the list of what follows, or none -/
def AllIs (p : List Pc) (A : List Str) (m : Nat) : Option (List Fc) → Prop
  | some L => Srt L ∧ (∀ y, y ∈ L ↔ Der p A y) ∧ L.length ≤ m
  | none => ∃ M : List Fc, M.Nodup ∧ (∀ y ∈ M, Der p A y) ∧ m < M.length
theorem nodup_le {α : Type} [DecidableEq α] : ∀ {l m : List α}, l.Nodup → (∀ x ∈ l, x ∈ m) → l.length ≤ m.length
  | [], m, _, _ => by simp
  | x :: l, m, h, hs => by
    rw [List.nodup_cons] at h
    have := nodup_le (l := l) (m := m.erase x) h.2 fun y hy => by
      have hne : y ≠ x := fun e => h.1 (e ▸ hy)
      exact (List.mem_erase_of_ne hne).2 (hs y (by simp [hy]))
    have hx := hs x (by simp)
    rw [List.length_erase_of_mem hx] at this
    have : 0 < m.length := List.length_pos_of_mem hx
    simp only [List.length_cons]
    omega
theorem AllIs.uniq {p : List Pc} {A : List Str} {m : Nat} {r r' : Option (List Fc)} (h : AllIs p A m r) (h' : AllIs p A m r') : r = r' := by
  cases r with
  | none =>
    cases r' with
    | none => rfl
    | some L =>
      obtain ⟨M, h1, h2, h3⟩ := h
      obtain ⟨_, g2, g3⟩ := h'
      have := nodup_le h1 fun x hx => (g2 x).2 (h2 x hx)
      omega
  | some L =>
    cases r' with
    | none =>
      obtain ⟨M, h1, h2, h3⟩ := h'
      obtain ⟨_, g2, g3⟩ := h
      have := nodup_le h1 fun x hx => (g2 x).2 (h2 x hx)
      omega
    | some L' => rw [h.1.ext h'.1 fun x => by rw [h.2.1, h'.2.1]]
end Go.Vs
namespace Go.Vs
open Go Go.Sx
set_option linter.unusedVariables false
set_option linter.unusedSimpArgs false
def stpN (c : List Fc) (y : Fc) (s : List Fc) : List Fc := if y ∈ c ∨ y ∈ s then s else s ++ [y]
abbrev kofN (c : List Fc) : List Fc → List Fc := fun _ => c
theorem growsN (c : List Fc) : Grows (stpN c) (kofN c) := ⟨fun _ _ _ h => h⟩
theorem emN_mem (c : List Fc) : ∀ (L s : List Fc) (z : Fc), z ∈ emits (stpN c) L s ↔ z ∈ s ∨ (z ∈ L ∧ z ∉ c)
  | [], s, z => by simp [emits]
  | y :: L, s, z => by
    have e : emits (stpN c) (y :: L) s = emits (stpN c) L (stpN c y s) := rfl
    rw [e, emN_mem c L]
    unfold stpN
    split
    · rename_i h
      constructor
      · rintro (h1 | ⟨h1, h2⟩)
        · exact .inl h1
        · exact .inr ⟨by simp [h1], h2⟩
      · rintro (h1 | ⟨h1, h2⟩)
        · exact .inl h1
        · rcases List.mem_cons.1 h1 with rfl | h1
          · exact .inl (h.resolve_left h2)
          · exact .inr ⟨h1, h2⟩
    · rename_i h
      simp only [not_or] at h
      constructor
      · rintro (h1 | ⟨h1, h2⟩)
        · rcases List.mem_append.1 h1 with h1 | h1
          · exact .inl h1
          · simp at h1; subst h1; exact .inr ⟨by simp, h.1⟩
        · exact .inr ⟨by simp [h1], h2⟩
      · rintro (h1 | ⟨h1, h2⟩)
        · exact .inl (by simp [h1])
        · rcases List.mem_cons.1 h1 with rfl | h1
          · exact .inl (by simp)
          · exact .inr ⟨h1, h2⟩
theorem emN_nodup (c : List Fc) : ∀ (L s : List Fc), s.Nodup → (emits (stpN c) L s).Nodup
  | [], s, h => h
  | y :: L, s, h => by
    refine emN_nodup c L (stpN c y s) ?_
    unfold stpN
    split
    · exact h
    · rename_i hc
      simp only [not_or] at hc
      rw [List.nodup_append]
      exact ⟨h, by simp, fun a ha b hb e => by simp at hb; subst hb; subst e; exact hc.2 ha⟩
section
variable {ps : List Pc} {A : List Str} {c : List Fc} {x : Ix} {f : Fc}
theorem rlN_sound (hr : ∀ x ∈ ps, x.vok) {Fm : Fc → Prop} (hx : x.of (· ∈ c) Fm) (hS : ∀ y ∈ c, y.form) (hf : f ∈ c) (j : Nat) (s : List Fc × List Fc) :
    ∀ y ∈ (rl (stpN c) (kofN c) (pmOf ps) x f j s).1, y ∈ s.1 ∨ (One' ps A (· ∈ c) y ∧ y ∉ c) := by
  have E : ∀ L, (∀ y ∈ L, One' ps A (· ∈ c) y) → ∀ y ∈ emits (stpN c) L s.1, y ∈ s.1 ∨ (One' ps A (· ∈ c) y ∧ y ∉ c) := fun L hL y hy => by
    rcases (emN_mem c L s.1 y).1 hy with h | h
    · exact .inl h
    · exact .inr ⟨hL y h.1, h.2⟩
  have hff := hS f hf
  have hk := form_kind hff
  unfold rl
  split
  · rename_i h1
    split
    · exact E _ (contain_sound h1 hff hf)
    · obtain ⟨L, e1, e2, _⟩ := bothF_emits (growsN c) f (lat (pmOf ps) ⟨2, [], f.b⟩) s.1
      rw [e1]
      refine E L fun y hy => ?_
      obtain ⟨z, hz, rfl, g1, g2⟩ := e2 y hy
      obtain ⟨q1, q2, _⟩ := pm2.1 hz
      exact .r4 q1 q2 g1 g2
    · exact E _ (some_sound h1 hff hf)
    · exact E _ (fillAtom_sound hr hx hS (fun _ h => h) h1 hff hf)
    · exact E _ (emptyAtom_sound hx hS (fun _ h => h) h1 hff hf)
    · rw [valueF_fst]; exact E _ (value_sound h1 hff hf)
  · split
    · rename_i h2
      split
      · exact E _ (include_sound h2 hff hf)
      · exact E _ (chain_sound hx hS (fun _ h => h) h2 hff hf)
      · exact E _ (fillLink_sound hx hS (fun _ h => h) h2 hff hf)
      · simp only
        split
        · rename_i hc
          exact E [fsub f.a [33]] (fun y hy => by simp at hy; subst hy; exact emptyLink_sound h2 hff hf hc)
        · exact fun y hy => .inl hy
    · rename_i h1 h2
      have h3 : f.kind = 3 := by omega
      split
      · exact E _ (meet_sound hx hS (fun _ h => h) h3 hff hf)
      · exact E _ (out_sound h3 hff hf)
theorem rlsN_sound (hr : ∀ x ∈ ps, x.vok) {Fm : Fc → Prop} (hx : x.of (· ∈ c) Fm) (hS : ∀ y ∈ c, y.form) (hf : f ∈ c) (s : List Fc × List Fc) (j : Nat) :
    ∀ y ∈ (rls (stpN c) (kofN c) (pmOf ps) x f j s).1, y ∈ s.1 ∨ (One' ps A (· ∈ c) y ∧ y ∉ c) := by
  induction j with
  | zero => exact fun y hy => .inl hy
  | succ j ih => exact fun y hy => (rlN_sound (A := A) hr hx hS hf j _ y hy).elim (ih y) .inr
theorem rlsN_up (j k : Nat) (s : List Fc × List Fc) : ∀ y ∈ (rls (stpN c) (kofN c) (pmOf ps) x f j s).1, y ∈ (rls (stpN c) (kofN c) (pmOf ps) x f (j + k) s).1 := by
  induction k with
  | zero => exact fun y hy => hy
  | succ k ih =>
    intro y hy
    obtain ⟨L, h⟩ := rl_emits (ps := ps) (x := x) (f := f) (growsN c) (j + k) (rls (stpN c) (kofN c) (pmOf ps) x f (j + k) s)
    rw [← Nat.add_assoc, rls, h, emN_mem]
    exact .inl (ih y hy)
theorem rls_firm_up (stp : Fc → List Fc → List Fc) (kof : List Fc → List Fc) (hg : Grows stp kof) (j : Nat) (s : List Fc × List Fc) : ∀ y ∈ s.2, y ∈ (rls stp kof (pmOf ps) x f j s).2 := by
  induction j with
  | zero => exact fun y hy => hy
  | succ j ih =>
    intro y hy
    have := ih y hy
    rw [rls, rl.eq_def]
    split
    · split
      · exact this
      · exact this
      · exact this
      · exact this
      · exact this
      · exact (valueF_snd hg f _ _ _ _).2 (.inl this)
    · split
      · split <;> exact this
      · split <;> exact this
/-- the state of Next when the first k facts are done -/
structure InvN (ps : List Pc) (A : List Str) (c : List Fc) (k : Nat) (s : List Fc × List Fc) : Prop where
  nd : s.1.Nodup
  snd : ∀ y ∈ s.1, One' ps A (· ∈ c) y ∧ y ∉ c
  fm : ∀ y ∈ c, y ∈ s.2
  st : ∀ y ∈ beginL (loopsOf ps) A, y ∈ s.1 ∨ y ∈ c
  cm : ∀ f ∈ c.take k, Cmpl ps (· ∈ c) (fun _ => True) (· ∈ c) (fun y => y ∈ s.1 ∨ y ∈ c) f
theorem Cmpl.up {S Fm kn good good' : Fc → Prop} (h : Cmpl ps S Fm kn good f) (hg : ∀ y, good y → good' y) : Cmpl ps S Fm kn good' f :=
  ⟨fun z a h1 h2 h3 => hg _ (h.c3 z a h1 h2 h3), fun z a h1 h2 h3 h4 => hg _ (h.c4 z a h1 h2 h3 h4), fun z a h1 h2 h3 h4 => hg _ (h.c4' z a h1 h2 h3 h4), fun z a h1 h2 h3 => hg _ (h.c5 z a h1 h2 h3), fun z a b h1 h2 h3 => hg _ (h.c6 z a b h1 h2 h3),
   fun z a b c h1 h2 h3 h4 => hg _ (h.c7 z a b c h1 h2 h3 h4), fun z a b c h1 h2 h3 h4 => hg _ (h.c7' z a b c h1 h2 h3 h4), fun z a b h1 h2 h3 h4 => hg _ (h.c8 z a b h1 h2 h3 h4), fun z a b h1 h2 h3 h4 => hg _ (h.c8' z a b h1 h2 h3 h4), fun a r b h1 h2 => hg _ (h.c9 a r b h1 h2), fun a r b h1 h2 => hg _ (h.c9' a r b h1 h2),
   fun z a h1 h2 h3 => hg _ (h.c11 z a h1 h2 h3), fun y h1 h2 h3 h4 h5 h6 h7 => hg _ (h.c12 y h1 h2 h3 h4 h5 h6 h7), fun y h1 h2 h3 h4 h5 h6 h7 => hg _ (h.c13 y h1 h2 h3 h4 h5 h6 h7), fun z a lo hi h1 h2 h3 h4 h5 => hg _ (h.c14 z a lo hi h1 h2 h3 h4 h5)⟩
theorem invN_start {fm : List Fc} (hfm : ∀ y ∈ c, y ∈ fm) : InvN ps A c 0 (emits (stpN c) (beginL (loopsOf ps) A) [], fm) := by
  refine ⟨emN_nodup c _ _ List.nodup_nil, fun y hy => ?_, hfm, fun y hy => ?_, by simp⟩
  · rcases (emN_mem c _ _ y).1 hy with h | h
    · simp at h
    · exact ⟨begin_sound y h.1, h.2⟩
  · by_cases h : y ∈ c
    · exact .inr h
    · exact .inl ((emN_mem c _ _ y).2 (.inr ⟨hy, h⟩))
theorem invN_step (hr : ∀ x ∈ ps, x.vok) (hx : x.of (· ∈ c) (fun _ => True)) (hS : ∀ y ∈ c, y.form) {k : Nat} {s s' : List Fc × List Fc} (h : InvN ps A c k s) (hf : c[k]? = some f) (hs : rls (stpN c) (kofN c) (pmOf ps) x f (nrl f) s = s') : InvN ps A c (k + 1) s' := by
  have hfc : f ∈ c := List.mem_of_getElem? hf
  have hup : ∀ y ∈ s.1, y ∈ s'.1 := fun y hy => by rw [← hs]; have := rlsN_up (ps := ps) (x := x) (f := f) (c := c) 0 (nrl f) s y hy; rwa [Nat.zero_add] at this
  have hcm : Cmpl ps (· ∈ c) (fun _ => True) (· ∈ c) (fun y => y ∈ s'.1 ∨ y ∈ c) f := by
    refine rls_cmpl (growsN c) hr hx s (fun y hy => ⟨fun _ => h.fm y hy, fun _ => trivial⟩) hfc (fun y hy => hy) _ (fun y hy => .inr hy) fun j hj L hL y hy => ?_
    by_cases hyc : y ∈ c
    · exact .inr hyc
    · refine .inl ?_
      have := rlsN_up (ps := ps) (x := x) (f := f) (c := c) (j + 1) (nrl f - (j + 1)) s y (by rw [hL, emN_mem]; exact .inr ⟨hy, hyc⟩)
      rw [show j + 1 + (nrl f - (j + 1)) = nrl f by omega, hs] at this
      exact this
  refine ⟨?_, fun y hy => ?_, fun y hy => by rw [← hs]; exact rls_firm_up _ _ (growsN c) _ s y (h.fm y hy), fun y hy => (h.st y hy).imp (hup y) id, fun g hg => ?_⟩
  · obtain ⟨L, hL⟩ := rls_emits (ps := ps) (x := x) (f := f) (growsN c) (nrl f) s
    rw [← hs, hL]; exact emN_nodup c L _ h.nd
  · rw [← hs] at hy
    exact (rlsN_sound (A := A) hr hx hS hfc s _ y hy).elim (h.snd y) id
  · rcases (take_mem hf).1 hg with hg | rfl
    · exact (h.cm g hg).up fun y hy => hy.imp (hup y) id
    · exact hcm
theorem cmpl_one {good : Fc → Prop} (hb : ∀ y ∈ beginL (loopsOf ps) A, good y) (hc : ∀ f ∈ c, Cmpl ps (· ∈ c) (fun _ => True) (· ∈ c) good f) {y : Fc} (h : One' ps A (· ∈ c) y) : good y := by
  cases h with
  | r1 h => exact hb _ (begin_all h).1
  | r2 h => exact hb _ (begin_all h).2.1
  | r10 hx hk h => exact hb _ ((begin_all h).2.2 _ hx hk)
  | r3 hx hk h => exact (hc _ h).c3 _ _ hx hk rfl
  | r4 hx hk h h' => exact (hc _ h).c4 _ _ hx hk rfl h'
  | r5 hx hk h => exact (hc _ h).c5 _ _ hx hk rfl
  | r6 hx hk h => exact (hc _ h).c6 _ _ _ hx hk rfl
  | r7 hx hk h h' => exact (hc _ h).c7 _ _ _ _ hx hk rfl h'
  | r8 hx hk h h' => exact (hc _ h).c8 _ _ _ hx hk rfl h'
  | r9 h h' => exact (hc _ h).c9 _ _ _ rfl h'
  | r11 hx hk h => exact (hc _ h).c11 _ _ hx hk rfl
  | r12 h h' hm hl => exact (hc _ h).c12 _ rfl h' rfl rfl rfl (.inl trivial) hl
  | r13 h h' hm hl => exact (hc _ h).c13 _ rfl h' rfl rfl rfl (.inl trivial) hl
  | r14 hx hk h h1 h2 => exact (hc _ h).c14 _ _ _ _ hx hk rfl h1 h2
theorem invN_done {s : List Fc × List Fc} (h : InvN ps A c c.length s) (y : Fc) : y ∈ s.1 ↔ One' ps A (· ∈ c) y ∧ y ∉ c := by
  refine ⟨h.snd y, fun ⟨h1, h2⟩ => ?_⟩
  exact (cmpl_one h.st (fun f hf => h.cm f (by rw [List.take_length]; exact hf)) h1).resolve_right h2
end
/-- where a fact stands in a sorted list, or would stand -/
def placeF (l : List Fc) (f : Fc) : Nat := l.countP fun y => decide (y.lt f)
def insF (l : List Fc) (f : Fc) : List Fc := if f ∈ l then l else l.take (placeF l f) ++ f :: l.drop (placeF l f)
theorem placeF_le (l : List Fc) (f : Fc) : placeF l f ≤ l.length := List.countP_le_length
theorem place_split : ∀ {l : List Fc} (f : Fc), Srt l → (∀ y ∈ l.take (placeF l f), y.lt f) ∧ (∀ y ∈ l.drop (placeF l f), ¬ y.lt f)
  | [], f, _ => by simp [placeF]
  | x :: l, f, h => by
    rw [Srt, List.pairwise_cons] at h
    obtain ⟨i1, i2⟩ := place_split f h.2
    by_cases hx : x.lt f
    · have e : placeF (x :: l) f = placeF l f + 1 := by simp [placeF, hx]
      rw [e]
      simp only [List.take_succ_cons, List.drop_succ_cons]
      exact ⟨fun y hy => (List.mem_cons.1 hy).elim (fun q => q ▸ hx) (i1 y), i2⟩
    · have hall : ∀ y ∈ l, ¬ y.lt f := fun y hy q => hx (Fc.lt_trans (h.1 y hy) q)
      have e : placeF (x :: l) f = 0 := by
        simp only [placeF, List.countP_cons, hx, decide_false, Bool.false_eq_true, if_false, Nat.add_zero]
        rw [List.countP_eq_zero]
        intro y hy; simpa using hall y hy
      rw [e]
      simp only [List.take_zero, List.not_mem_nil, false_imp_iff, implies_true, true_and, List.drop_zero]
      intro y hy
      rcases List.mem_cons.1 hy with rfl | hy
      · exact hx
      · exact hall y hy
theorem insF_mem (l : List Fc) (f y : Fc) : y ∈ insF l f ↔ y ∈ l ∨ y = f := by
  unfold insF
  split
  · rename_i h
    exact ⟨.inl, fun q => q.elim id fun e => e ▸ h⟩
  · have : y ∈ l ↔ y ∈ l.take (placeF l f) ∨ y ∈ l.drop (placeF l f) := by rw [← List.mem_append, List.take_append_drop]
    rw [this]
    simp only [List.mem_append, List.mem_cons]
    constructor
    · rintro (h | h | h)
      · exact .inl (.inl h)
      · exact .inr h
      · exact .inl (.inr h)
    · rintro ((h | h) | h)
      · exact .inl h
      · exact .inr (.inr h)
      · exact .inr (.inl h)
theorem insF_srt {l : List Fc} (f : Fc) (h : Srt l) : Srt (insF l f) := by
  unfold insF
  split
  · exact h
  · rename_i hn
    obtain ⟨h1, h2⟩ := place_split f h
    have hd : ∀ y ∈ l.drop (placeF l f), f.lt y := fun y hy => by
      rcases Fc.lt_tri f y with q | q | q
      · exact q
      · exact absurd (List.mem_of_mem_drop hy) (q ▸ hn)
      · exact absurd q (h2 y hy)
    rw [Srt, List.pairwise_append]
    refine ⟨h.sublist (List.take_sublist _ _), List.pairwise_cons.2 ⟨hd, h.sublist (List.drop_sublist _ _)⟩, fun a ha b hb => ?_⟩
    rcases List.mem_cons.1 hb with rfl | hb
    · exact h1 a ha
    · exact Fc.lt_trans (h1 a ha) (hd b hb)
theorem has_place {l : List Fc} (h : Srt l) (f : Fc) : f ∈ l ↔ l[placeF l f]? = some f := by
  obtain ⟨h1, h2⟩ := place_split f h
  refine ⟨fun hf => ?_, fun hf => List.mem_of_getElem? hf⟩
  rw [← List.take_append_drop (placeF l f) l, List.mem_append] at hf
  rcases hf with hf | hf
  · exact absurd (h1 f hf) (Fc.lt_irr f)
  · have hs : Srt (l.drop (placeF l f)) := h.sublist (List.drop_sublist _ _)
    cases hd : l.drop (placeF l f) with
    | nil => rw [hd] at hf; simp at hf
    | cons z r =>
      have hz : l[placeF l f]? = some z := by
        have := congrArg (fun q => q[0]?) hd
        simpa [List.getElem?_drop] using this
      rw [hd] at hf hs h2
      rcases List.mem_cons.1 hf with rfl | hf
      · exact hz
      · rw [Srt, List.pairwise_cons] at hs
        exact absurd (hs.1 f hf) (h2 z (by simp))
def subA (p : List Pc) (l : List Fc) (f : Fc) : List Fc := p.flatMap fun x =>
  if x.kind = 1 ∧ x.a = f.b then [fsub f.a x.c]
  else if x.kind = 2 ∧ (x.a = f.b ∧ fsub f.a x.b ∈ l ∨ x.b = f.b ∧ fsub f.a x.a ∈ l) then [fsub f.a x.c]
  else if x.kind = 3 ∧ x.a = f.b then [flink f.a x.r x.c]
  else if x.kind = 8 ∧ x.a = f.b then [fspan f.a x.r x.lo x.hi]
  else []
def subBp (p : List Pc) (f y : Fc) : List Fc := p.flatMap fun x => if x.kind = 4 ∧ x.r = y.r ∧ x.a = f.b then [fsub y.a x.c] else []
def subB (p : List Pc) (f y : Fc) : List Fc := if y.kind ≠ 2 ∨ y.b ≠ f.a then [] else (if f.b = [33] then [fsub y.a [33]] else []) ++ subBp p f y
def subS (p : List Pc) (l : List Fc) (f : Fc) : List Fc := subA p l f ++ l.flatMap (subB p f)
def linkC (x : Pc) (f y : Fc) : List Fc := if y.kind ≠ 2 then [] else (if x.r = f.r ∧ y.a = f.b ∧ y.r = x.s then [flink f.a x.t y.b] else []) ++ (if x.s = f.r ∧ y.b = f.a ∧ y.r = x.r then [flink y.a x.t f.b] else [])
def linkA (l : List Fc) (f : Fc) (x : Pc) : List Fc :=
  if x.kind = 5 ∧ x.r = f.r then [flink f.a x.t f.b]
  else if x.kind = 4 ∧ x.r = f.r ∧ fsub f.b x.a ∈ l then [fsub f.a x.c]
  else if x.kind = 6 then l.flatMap (linkC x f) else []
def linkS (p : List Pc) (l : List Fc) (f : Fc) : List Fc := (if fsub f.b [33] ∈ l then [fsub f.a [33]] else []) ++ p.flatMap (linkA l f)
def rangeA (f y : Fc) : List Fc := if y.kind ≠ 3 ∨ y.a ≠ f.a ∨ y.r ≠ f.r then [] else if max f.lo y.lo ≤ min f.hi y.hi then [meet1 f y] else [fsub f.a [33]]
def rangeB (f : Fc) (x : Pc) : List Fc := if x.kind = 9 ∧ x.r = f.r ∧ x.lo ≤ f.lo ∧ f.hi ≤ x.hi then [fsub f.a x.c] else []
def rangeS (p : List Pc) (l : List Fc) (f : Fc) : List Fc := l.flatMap (rangeA f) ++ p.flatMap (rangeB f)
def stepS (p : List Pc) (l : List Fc) (f : Fc) : List Fc := if f.kind = 1 then subS p l f else if f.kind = 2 then linkS p l f else rangeS p l f
def firstL (p : List Pc) (A : List Str) : List Fc := A.flatMap fun a => fsub a a :: fsub a [42] :: (p.filter fun x => decide (x.kind = 7)).map fun x => flink a x.r a
theorem firstL_eq (p : List Pc) (A : List Str) : firstL p A = beginL (loopsOf p) A := by
  unfold firstL beginL loopsOf
  simp [List.map_map, Function.comp_def]
section
variable {p : List Pc} {A : List Str} {l : List Fc} {f : Fc}
theorem stepS_sound (hf : f ∈ l) (hF : ∀ y ∈ l, y.form) : ∀ y ∈ stepS p l f, One' p A (· ∈ l) y := by
  have hff := hF f hf
  have hk := form_kind hff
  intro y hy
  unfold stepS at hy
  split at hy
  · rename_i h1
    have ef := form1 hff h1
    rcases List.mem_append.1 hy with hy | hy
    · obtain ⟨x, hx, hy⟩ := List.mem_flatMap.1 hy
      split at hy
      · rename_i hc
        simp at hy; subst hy
        exact .r3 hx hc.1 (by rw [hc.2, ← ef]; exact hf)
      · split at hy
        · rename_i hc
          simp at hy; subst hy
          rcases hc.2 with h | h
          · exact .r4 hx hc.1 (by rw [h.1, ← ef]; exact hf) h.2
          · exact .r4 hx hc.1 h.2 (by rw [h.1, ← ef]; exact hf)
        · split at hy
          · rename_i hc
            simp at hy; subst hy
            exact .r5 hx hc.1 (by rw [hc.2, ← ef]; exact hf)
          · split at hy
            · rename_i hc
              simp at hy; subst hy
              exact .r11 hx hc.1 (by rw [hc.2, ← ef]; exact hf)
            · simp at hy
    · obtain ⟨g, hg, hy⟩ := List.mem_flatMap.1 hy
      unfold subB at hy
      split at hy
      · simp at hy
      · rename_i hc
        simp only [not_or, Decidable.not_not] at hc
        have eg := (form2 (hF g hg) hc.1).1
        rcases List.mem_append.1 hy with hy | hy
        · split at hy
          · rename_i hb
            simp at hy; subst hy
            exact .r9 (r := g.r) (b := g.b) (by rw [← eg]; exact hg) (by rw [hc.2, ← hb, ← ef]; exact hf)
          · simp at hy
        · obtain ⟨x, hx, hy⟩ := List.mem_flatMap.1 hy
          split at hy
          · rename_i hd
            simp at hy; subst hy
            exact .r8 (b := g.b) hx hd.1 (by rw [hd.2.1, ← eg]; exact hg) (by rw [hc.2, hd.2.2, ← ef]; exact hf)
          · simp at hy
  · split at hy
    · rename_i h2
      have ef := (form2 hff h2).1
      rcases List.mem_append.1 hy with hy | hy
      · split at hy
        · rename_i hb
          simp at hy; subst hy
          exact .r9 (r := f.r) (b := f.b) (by rw [← ef]; exact hf) hb
        · simp at hy
      · obtain ⟨x, hx, hy⟩ := List.mem_flatMap.1 hy
        unfold linkA at hy
        split at hy
        · rename_i hc
          simp at hy; subst hy
          exact .r6 hx hc.1 (by rw [hc.2, ← ef]; exact hf)
        · split at hy
          · rename_i hc
            simp at hy; subst hy
            exact .r8 (b := f.b) hx hc.1 (by rw [hc.2.1, ← ef]; exact hf) hc.2.2
          · split at hy
            · rename_i hc
              obtain ⟨g, hg, hy⟩ := List.mem_flatMap.1 hy
              unfold linkC at hy
              split at hy
              · simp at hy
              · rename_i hgk
                have eg := (form2 (hF g hg) (Decidable.not_not.1 hgk)).1
                rcases List.mem_append.1 hy with hy | hy
                · split at hy
                  · rename_i hd
                    simp at hy; subst hy
                    exact .r7 (b := f.b) hx hc (by rw [hd.1, ← ef]; exact hf) (by rw [← hd.2.2, ← hd.2.1, ← eg]; exact hg)
                  · simp at hy
                · split at hy
                  · rename_i hd
                    simp at hy; subst hy
                    exact .r7 (b := f.a) hx hc (by rw [← hd.2.2, ← hd.2.1, ← eg]; exact hg) (by rw [hd.1, ← ef]; exact hf)
                  · simp at hy
            · simp at hy
    · rename_i h1 h2
      have h3 : f.kind = 3 := by omega
      have ef := (form3 hff h3).1
      rcases List.mem_append.1 hy with hy | hy
      · obtain ⟨g, hg, hy⟩ := List.mem_flatMap.1 hy
        unfold rangeA at hy
        split at hy
        · simp at hy
        · rename_i hc
          simp only [not_or, Decidable.not_not] at hc
          have eg := (form3 (hF g hg) hc.1).1
          rw [hc.2.1, hc.2.2] at eg
          split at hy
          · rename_i hl
            simp at hy; subst hy
            exact .r12 (by rw [← ef]; exact hf) (by rw [← eg]; exact hg) trivial hl
          · rename_i hl
            simp at hy; subst hy
            exact .r13 (r := f.r) (by rw [← ef]; exact hf) (by rw [← eg]; exact hg) trivial (Int.not_le.1 hl)
      · obtain ⟨x, hx, hy⟩ := List.mem_flatMap.1 hy
        unfold rangeB at hy
        split at hy
        · rename_i hc
          simp at hy; subst hy
          exact .r14 hx hc.1 (by rw [hc.2.1, ← ef]; exact hf) hc.2.2.1 hc.2.2.2
        · simp at hy
theorem stepS_cmpl : Cmpl p (· ∈ l) (fun _ => True) (· ∈ l) (· ∈ stepS p l f) f := by
  have s1 : ∀ {a b y}, f = fsub a b → (y ∈ subS p l f) → y ∈ stepS p l f := fun e h => by unfold stepS; rw [if_pos (by rw [e]; rfl)]; exact h
  have s2 : ∀ {a r b y}, f = flink a r b → (y ∈ linkS p l f) → y ∈ stepS p l f := fun e h => by unfold stepS; rw [if_neg (by rw [e]; simp [flink]), if_pos (by rw [e]; rfl)]; exact h
  have s3 : ∀ {y}, f.kind = 3 → (y ∈ rangeS p l f) → y ∈ stepS p l f := fun e h => by unfold stepS; rw [if_neg (by rw [e]; decide), if_neg (by rw [e]; decide)]; exact h
  refine ⟨?_, ?_, ?_, ?_, ?_, ?_, ?_, ?_, ?_, ?_, ?_, ?_, ?_, ?_, ?_⟩
  · intro z a hz hk e
    refine s1 e (List.mem_append_left _ (List.mem_flatMap.2 ⟨z, hz, ?_⟩))
    rw [e, if_pos ⟨hk, rfl⟩]; simp [fsub]
  · intro z a hz hk e h
    refine s1 e (List.mem_append_left _ (List.mem_flatMap.2 ⟨z, hz, ?_⟩))
    rw [e, if_neg (by rw [hk]; simp), if_pos ⟨hk, .inl ⟨rfl, h⟩⟩]; simp [fsub]
  · intro z a hz hk e h
    refine s1 e (List.mem_append_left _ (List.mem_flatMap.2 ⟨z, hz, ?_⟩))
    rw [e, if_neg (by rw [hk]; simp), if_pos ⟨hk, .inr ⟨rfl, h⟩⟩]; simp [fsub]
  · intro z a hz hk e
    refine s1 e (List.mem_append_left _ (List.mem_flatMap.2 ⟨z, hz, ?_⟩))
    rw [e, if_neg (by rw [hk]; simp), if_neg (by rw [hk]; simp), if_pos ⟨hk, rfl⟩]; simp [fsub]
  · intro z a b hz hk e
    refine s2 e (List.mem_append_right _ (List.mem_flatMap.2 ⟨z, hz, ?_⟩))
    rw [e, linkA, if_pos ⟨hk, rfl⟩]; simp [flink]
  · intro z a b c hz hk e h
    refine s2 e (List.mem_append_right _ (List.mem_flatMap.2 ⟨z, hz, ?_⟩))
    rw [e, linkA, if_neg (by rw [hk]; simp), if_neg (by rw [hk]; simp), if_pos hk]
    refine List.mem_flatMap.2 ⟨_, h, ?_⟩
    rw [linkC, if_neg (by simp [flink])]
    refine List.mem_append_left _ ?_
    rw [if_pos ⟨rfl, rfl, rfl⟩]; simp [flink]
  · intro z a b c hz hk e h
    refine s2 e (List.mem_append_right _ (List.mem_flatMap.2 ⟨z, hz, ?_⟩))
    rw [e, linkA, if_neg (by rw [hk]; simp), if_neg (by rw [hk]; simp), if_pos hk]
    refine List.mem_flatMap.2 ⟨_, h, ?_⟩
    rw [linkC, if_neg (by simp [flink])]
    refine List.mem_append_right _ ?_
    rw [if_pos ⟨rfl, rfl, rfl⟩]; simp [flink]
  · intro z a b hz hk e h
    refine s2 e (List.mem_append_right _ (List.mem_flatMap.2 ⟨z, hz, ?_⟩))
    rw [e, linkA, if_neg (by rw [hk]; simp), if_pos ⟨hk, rfl, h⟩]; simp [flink]
  · intro z a b hz hk e h
    refine s1 e (List.mem_append_right _ (List.mem_flatMap.2 ⟨_, h, ?_⟩))
    rw [subB, if_neg (by rw [e]; simp [flink, fsub])]
    refine List.mem_append_right _ (List.mem_flatMap.2 ⟨z, hz, ?_⟩)
    rw [e, if_pos ⟨hk, rfl, rfl⟩]; simp [flink]
  · intro a r b e h
    refine s2 e (List.mem_append_left _ ?_)
    rw [e, if_pos (show fsub (flink a r b).b [33] ∈ l from h)]; simp [flink]
  · intro a r b e h
    refine s1 e (List.mem_append_right _ (List.mem_flatMap.2 ⟨_, h, ?_⟩))
    rw [subB, if_neg (by rw [e]; simp [flink, fsub])]
    refine List.mem_append_left _ ?_
    rw [e, if_pos (show (fsub b [33]).b = [33] from rfl)]; simp [flink]
  · intro z a hz hk e
    refine s1 e (List.mem_append_left _ (List.mem_flatMap.2 ⟨z, hz, ?_⟩))
    rw [e, if_neg (by rw [hk]; simp), if_neg (by rw [hk]; simp), if_neg (by rw [hk]; simp), if_pos ⟨hk, rfl⟩]; simp [fsub]
  · intro y h3 hy hk ha hr _ hl
    refine s3 h3 (List.mem_append_left _ (List.mem_flatMap.2 ⟨y, hy, ?_⟩))
    rw [rangeA, if_neg (by simp [hk, ha, hr]), if_pos hl]; simp
  · intro y h3 hy hk ha hr _ hl
    refine s3 h3 (List.mem_append_left _ (List.mem_flatMap.2 ⟨y, hy, ?_⟩))
    rw [rangeA, if_neg (by simp [hk, ha, hr]), if_neg (Int.not_le.2 hl)]; simp
  · intro z a lo hi hz hk e h1 h2
    refine s3 (by rw [e]; rfl) (List.mem_append_right _ (List.mem_flatMap.2 ⟨z, hz, ?_⟩))
    rw [e, rangeB, if_pos ⟨hk, rfl, h1, h2⟩]; simp [fspan]
theorem fm_le {α β : Type} {g : α → List β} {n : Nat} : ∀ (l : List α), (∀ x ∈ l, (g x).length ≤ n) → (l.flatMap g).length ≤ l.length * n
  | [], _ => by simp
  | x :: l, h => by
    have := fm_le l fun y hy => h y (by simp [hy])
    have hx := h x (by simp)
    simp only [List.flatMap_cons, List.length_append, List.length_cons, Nat.add_mul, Nat.one_mul]
    omega
theorem stepS_len (hp : p.length ≤ 100) (hl : l.length ≤ 65536) : (stepS p l f).length ≤ 14000000 := by
  have a1 : (subA p l f).length ≤ p.length * 1 := fm_le p fun x _ => by repeat' split
                                                                        all_goals simp
  have a2 : ∀ y, (subBp p f y).length ≤ p.length * 1 := fun y => fm_le p fun x _ => by split <;> simp
  have a3 : (l.flatMap (subB p f)).length ≤ l.length * 101 := fm_le l fun y _ => by
    have := a2 y
    unfold subB
    split
    · simp
    · rw [List.length_append]
      split <;> simp <;> omega
  have a4 : ∀ x y, (linkC x f y).length ≤ 2 := fun x y => by
    unfold linkC
    repeat' split
    all_goals simp
  have a5 : (p.flatMap (linkA l f)).length ≤ p.length * 131072 := fm_le p fun x _ => by
    unfold linkA
    split
    · simp
    · split
      · simp
      · split
        · have := fm_le l fun y _ => a4 x y
          omega
        · simp
  have a6 : (l.flatMap (rangeA f)).length ≤ l.length * 1 := fm_le l fun y _ => by
    unfold rangeA
    repeat' split
    all_goals simp
  have a7 : (p.flatMap (rangeB f)).length ≤ p.length * 1 := fm_le p fun y _ => by
    unfold rangeB
    split <;> simp
  unfold stepS
  split
  · rw [subS, List.length_append]; omega
  · split
    · rw [linkS, List.length_append]
      have : (if fsub f.b [33] ∈ l then [fsub f.a [33]] else []).length ≤ 1 := by split <;> simp
      omega
    · rw [rangeS, List.length_append]; omega
/-- what Next of the reference finds -/
theorem next_ref (hF : ∀ y ∈ l, y.form) (y : Fc) : y ∈ firstL p A ++ l.flatMap (fun f => stepS p l f) ↔ One' p A (· ∈ l) y := by
  constructor
  · intro hy
    rcases List.mem_append.1 hy with hy | hy
    · rw [firstL_eq] at hy; exact begin_sound y hy
    · obtain ⟨f, hf, hy⟩ := List.mem_flatMap.1 hy
      exact stepS_sound hf hF y hy
  · intro hy
    refine cmpl_one (c := l) (good := fun y => y ∈ firstL p A ++ l.flatMap (fun f => stepS p l f)) (fun y hy => List.mem_append_left _ (by rw [firstL_eq]; exact hy)) (fun f hf => ?_) hy
    exact stepS_cmpl.up fun y hy => List.mem_append_right _ (List.mem_flatMap.2 ⟨f, hf, hy⟩)
end
def grow1 (p : List Pc) (A : List Str) (l : List Fc) : List Fc := (firstL p A ++ l.flatMap (fun f => stepS p l f)).foldl insF l
def clos (p : List Pc) (A : List Str) : Nat → List Fc
  | 0 => []
  | n + 1 => grow1 p A (clos p A n)
theorem insAll_mem : ∀ (xs l : List Fc) (y : Fc), y ∈ xs.foldl insF l ↔ y ∈ l ∨ y ∈ xs
  | [], l, y => by simp
  | x :: xs, l, y => by
    rw [List.foldl_cons, insAll_mem xs, insF_mem]
    simp only [List.mem_cons]
    constructor
    · rintro ((h | h) | h)
      · exact .inl h
      · exact .inr (.inl h)
      · exact .inr (.inr h)
    · rintro (h | h | h)
      · exact .inl (.inl h)
      · exact .inl (.inr h)
      · exact .inr h
theorem insAll_srt : ∀ (xs : List Fc) {l : List Fc}, Srt l → Srt (xs.foldl insF l)
  | [], _, h => h
  | x :: xs, _, h => insAll_srt xs (insF_srt x h)
theorem clos_srt (p : List Pc) (A : List Str) : ∀ n, Srt (clos p A n)
  | 0 => List.Pairwise.nil
  | n + 1 => insAll_srt _ (clos_srt p A n)
theorem clos_der {p : List Pc} {A : List Str} (hp : ∀ x ∈ p, x.vok) : ∀ n, ∀ y ∈ clos p A n, Der p A y
  | 0, y, hy => by simp [clos] at hy
  | n + 1, y, hy => by
    have ih := clos_der (A := A) hp n
    rcases (insAll_mem _ _ y).1 hy with h | h
    · exact ih y h
    · exact Der.step (((next_ref (fun z hz => (ih z hz).form hp) y).1 h).mono (fun x hx => ⟨x, hx, x.frm, rfl⟩) (fun _ h => h) ih (fun _ _ h => h))
theorem clos_all {p : List Pc} {A : List Str} (hp : ∀ x ∈ p, x.vok) (n m : Nat) (hc : ((firstL p A ++ (clos p A n).flatMap (fun f => stepS p (clos p A n) f)).all fun y => decide (y ∈ clos p A n)) = true) (hl : (clos p A n).length ≤ m) : AllIs p A m (some (clos p A n)) := by
  refine ⟨clos_srt p A n, fun y => ⟨clos_der hp n y, fun h => h.least fun z hz => ?_⟩, hl⟩
  exact of_decide_eq_true (List.all_eq_true.1 hc z ((next_ref (fun w hw => (clos_der hp n w hw).form hp) z).2 hz))
theorem clos_none {p : List Pc} {A : List Str} (hp : ∀ x ∈ p, x.vok) (n m : Nat) (hl : m < (clos p A n).length) : AllIs p A m none := ⟨clos p A n, (clos_srt p A n).nodup, clos_der hp n, hl⟩
end Go.Vs
namespace Go.Sx
open Go Go.Vs
set_option linter.unusedSectionVars false
set_option linter.unusedVariables false
/-- blocks of one's own that a call only reads: the callee sees them as lasting -/
theorem tri_lend {P : Program} {f : FuncId} {args : Array Value} {H : Hp} {Γ Γ0 : List Fct} {ι : Type} {ret : ι → Value} {H' : ι → Hp} (B : Hp) (hT : Tri P f args H Γ ret H' (fun _ => []))
    (hΓ : ∀ v : Vw, (∀ p ∈ B, v.im p.1 ∧ v.w.heap[p.1]? = some p.2) → holds Γ0 v → holds Γ v) : Tri P f args (B ++ H) Γ0 ret (fun x => B ++ H' x) (fun _ => []) := by
  refine ⟨hT.callable, fun v hs hv => ?_⟩
  have hnd := hs.nodup
  rw [List.map_append, List.nodup_append] at hnd
  have hlt : ∀ p ∈ B, p.1 < v.w.heap.size := fun p hp => (Array.getElem?_eq_some_iff.1 (hs.own p (List.mem_append_left _ hp)).1).1
  have h1 : (⟨fun b => v.im b ∨ b ∈ B.map Prod.fst, v.w, v.sl⟩ : Vw).sat H := by
    refine ⟨fun p hp => ⟨(hs.own p (List.mem_append_right _ hp)).1, fun hi => ?_⟩, hnd.2.1, fun b hb => ?_⟩
    · rcases hi with hi | hi
      · exact (hs.own p (List.mem_append_right _ hp)).2 hi
      · exact hnd.2.2 _ hi _ (List.mem_map_of_mem hp) rfl
    · rcases hb with hb | hb
      · exact hs.lt b hb
      · obtain ⟨p, hp, rfl⟩ := List.mem_map.1 hb
        exact hlt p hp
  have hle : v.le ⟨fun b => v.im b ∨ b ∈ B.map Prod.fst, v.w, v.sl⟩ := ⟨fun b h => .inl h, fun _ _ => rfl, rfl⟩
  have h2 := hΓ ⟨fun b => v.im b ∨ b ∈ B.map Prod.fst, v.w, v.sl⟩ (fun p hp => ⟨.inr (List.mem_map_of_mem hp), (hs.own p (List.mem_append_left _ hp)).1⟩) (holds_mono hle hv)
  refine (hT.run _ h1 h2).mono ?_
  rintro e w' ⟨x, v', rfl, rfl, g1, _, g3⟩
  have hB : ∀ b, b ∈ B.map Prod.fst → v'.im b := fun b hb => g3.imUp b (.inr hb)
  refine ⟨x, ⟨fun b => v'.im b ∧ b ∉ B.map Prod.fst, v'.w, v'.sl⟩, rfl, rfl, ⟨fun p hp => ?_, ?_, fun b hb => g1.lt b hb.1⟩, trivial, ?_⟩
  · rcases List.mem_append.1 hp with hp | hp
    · refine ⟨?_, fun h => h.2 (List.mem_map_of_mem hp)⟩
      have := (g3.le h1).block p.1 (.inr (List.mem_map_of_mem hp))
      exact this.trans (hs.own p (List.mem_append_left _ hp)).1
    · exact ⟨(g1.own p hp).1, fun h => (g1.own p hp).2 h.1⟩
  · rw [List.map_append, List.nodup_append]
    refine ⟨hnd.1, g1.nodup, fun a ha b hb e => ?_⟩
    subst e
    obtain ⟨p, hp, rfl⟩ := List.mem_map.1 hb
    exact (g1.own p hp).2 (hB _ ha)
  · refine ⟨g3.os, g3.tape, g3.output, g3.size, fun b hb hn => g3.block b hb (fun hm => hn ?_), fun b hb => ⟨g3.imUp b (.inl hb), fun hm => ?_⟩, fun b hb => ?_, fun b hb => ?_, g3.sl, g3.dr⟩
    · rw [List.map_append]; exact List.mem_append_right _ hm
    · obtain ⟨p, hp, rfl⟩ := List.mem_map.1 hm
      exact (hs.own p (List.mem_append_left _ hp)).2 hb
    · rcases g3.imNew b hb.1 with (h | h) | h | h
      · exact .inl h
      · exact absurd h hb.2
      · exact .inr (.inl (by rw [List.map_append]; exact List.mem_append_right _ h))
      · exact .inr (.inr h)
    · rw [List.map_append] at hb ⊢
      rcases List.mem_append.1 hb with h | h
      · exact .inl (List.mem_append_left _ h)
      · exact (g3.hNew b h).imp (List.mem_append_right _) id
structure KeyT (P : Program) (kt : TypeId) {K : Type} [DecidableEq K] (kv : K → Value) : Prop where
  ok : ∀ k, KeyOk P kt (kv k)
  nf : ∀ (k : K) (es : List MapEntry) (ks : List K), es.map (·.key) = ks.map kv → k ∉ ks → Finds P kt (kv k) es none
  sf : ∀ (k : K) (es : List MapEntry) (ks : List K) (i : Nat) (e : MapEntry), es.map (·.key) = ks.map kv → ks.Nodup → ks[i]? = some k → es[i]? = some e → Finds P kt (kv k) es (some (i, e.val))
  same : ∀ k, Instr.sameBits 10000 (kv k) (kv k) = true
section
variable {P : Program}
theorem bab_eq (a b : List UInt8) : ((⟨a.toArray⟩ : ByteArray) == ⟨b.toArray⟩) = decide (a = b) := by
  show (a.toArray == b.toArray) = _
  rw [Bool.eq_iff_iff]
  simp
theorem keyT_str {kt : TypeId} (hu : P.underlying kt = some .string) : KeyT P kt str where
  ok := fun k e w => by
    have key : ∀ m, (Instr.checkKey e (m + 1) kt (str k)).run P w = .ok () w := fun m => by simp [Instr.checkKey, run_underlying hu, str]
    exact key 9999
  nf := fun k es ks h hk => finds_now hu (by
    have : ∀ (ks : List Str) (es : List MapEntry) (i : Nat), es.map (·.key) = ks.map str → k ∉ ks → Instr.findNow .string (str k) es i = some none := by
      intro ks
      induction ks with
      | nil => intro es i h _; have : es = [] := by simpa using h
               subst this; rfl
      | cons q ks ih =>
        intro es i h hk
        cases es with
        | nil => simp at h
        | cons e es =>
          simp only [List.map_cons, List.cons.injEq] at h
          simp only [List.mem_cons, not_or] at hk
          have hs : Instr.sameNow .string (str k) e.key = some false := by
            rw [h.1]
            show some ((⟨k.toArray⟩ : ByteArray) == ⟨q.toArray⟩) = some false
            rw [bab_eq, decide_eq_false hk.1]
          simp only [Instr.findNow, hs]
          exact ih es (i + 1) h.2 hk.2
    exact this ks es 0 h hk)
  sf := fun k es ks i e h hn hi he => finds_now hu (by
    have : ∀ (ks : List Str) (es : List MapEntry) (j i : Nat), es.map (·.key) = ks.map str → ks.Nodup → ks[i]? = some k → es[i]? = some e → Instr.findNow .string (str k) es j = some (some (j + i, e.val)) := by
      intro ks
      induction ks with
      | nil => intro es j i _ _ h; simp at h
      | cons q ks ih =>
        intro es j i h hn hi he
        cases es with
        | nil => simp at h
        | cons x es =>
          simp only [List.map_cons, List.cons.injEq] at h
          rw [List.nodup_cons] at hn
          cases i with
          | zero =>
            simp only [List.getElem?_cons_zero, Option.some.injEq] at hi he
            subst hi; subst he
            have hs : Instr.sameNow .string (str q) x.key = some true := by
              rw [h.1]
              show some ((⟨q.toArray⟩ : ByteArray) == ⟨q.toArray⟩) = some true
              rw [bab_eq, decide_eq_true rfl]
            simp only [Instr.findNow, hs, Nat.add_zero]
          | succ i =>
            simp only [List.getElem?_cons_succ] at hi he
            have hne : k ≠ q := fun e => hn.1 (e ▸ List.mem_of_getElem? hi)
            have hs : Instr.sameNow .string (str k) x.key = some false := by
              rw [h.1]
              show some ((⟨k.toArray⟩ : ByteArray) == ⟨q.toArray⟩) = some false
              rw [bab_eq, decide_eq_false hne]
            simp only [Instr.findNow, hs]
            rw [ih es (j + 1) i h.2 hn.2 hi he, show j + 1 + i = j + (i + 1) by omega]
    have := this ks es 0 i h hn hi he
    rwa [Nat.zero_add] at this)
  same := fun k => by
    have key : ∀ m, Instr.sameBits m (str k) (str k) = true := fun m => by
      cases m <;> (show ((⟨k.toArray⟩ : ByteArray) == ⟨k.toArray⟩) = true; rw [bab_eq, decide_eq_true rfl])
    exact key 10000
theorem keyT_struct {K : Type} [DecidableEq K] {kt : TypeId} {fs : Array Field} {kv : K → Value} (hu : P.underlying kt = some (.struct fs)) (hok : ∀ k, KeyOk P kt (kv k)) (heq : ∀ p q w, (Op.equal kt (kv p) (kv q)).run P w = .ok (decide (p = q)) w) (hsame : ∀ k, Instr.sameBits 10000 (kv k) (kv k) = true) : KeyT P kt kv where
  ok := hok
  nf := fun k es ks h hk => (finds_struct hu heq k ks es h).1 hk
  sf := fun k es ks i e h hn hi he => by
    have key : ∀ (ks : List K) (es : List MapEntry) (j i : Nat), es.map (·.key) = ks.map kv → ks.Nodup → ks[i]? = some k → es[i]? = some e → ∀ w, (Instr.findAsking kt (kv k) es j).run P w = .ok (some (j + i, e.val)) w := by
      intro ks
      induction ks with
      | nil => intro es j i _ _ h; simp at h
      | cons q ks ih =>
        intro es j i h hn hi he w
        cases es with
        | nil => simp at h
        | cons x es =>
          simp only [List.map_cons, List.cons.injEq] at h
          rw [List.nodup_cons] at hn
          cases i with
          | zero =>
            simp only [List.getElem?_cons_zero, Option.some.injEq] at hi he
            subst hi; subst he
            simp only [Instr.findAsking, Sem.run_bind, h.1, heq, Result.andThen_ok, decide_true, if_true, Sem.run_pure, Nat.add_zero]
          | succ i =>
            simp only [List.getElem?_cons_succ] at hi he
            have hne : k ≠ q := fun e => hn.1 (e ▸ List.mem_of_getElem? hi)
            simp only [Instr.findAsking, Sem.run_bind, h.1, heq, Result.andThen_ok, hne, decide_false, Bool.false_eq_true, if_false]
            rw [ih es (j + 1) i h.2 hn.2 hi he w, show j + 1 + i = j + (i + 1) by omega]
    intro w
    have hnow : ∀ (x : MapEntry) (r : List MapEntry), Instr.findNow (.struct fs) (kv k) (x :: r) 0 = none := fun x r => by simp [Instr.findNow, Instr.sameNow]
    cases es with
    | nil => simp at he
    | cons x r =>
      simp only [Instr.findKey, Sem.run_bind, run_underlying hu, Result.andThen_ok, hnow]
      have := key ks (x :: r) 0 i h hn hi he w
      rwa [Nat.zero_add] at this
  same := hsame
end
theorem same_int (n : Nat) {k : IntKind} (i : Int) : Instr.sameBits n (.int k i) (.int k i) = true := by
  cases n <;> simp [Instr.sameBits]
theorem same_str (n : Nat) (s : List UInt8) : Instr.sameBits n (str s) (str s) = true := by
  cases n <;> (show ((⟨s.toArray⟩ : ByteArray) == ⟨s.toArray⟩) = true; rw [bab_eq, decide_eq_true rfl])
theorem same_agg {n : Nat} {l : List Value} (h : ∀ v ∈ l, Instr.sameBits n v v = true) : Instr.sameBits (n + 1) (.agg l.toArray) (.agg l.toArray) = true := by
  simp only [Instr.sameBits, BEq.rfl, Bool.true_and, List.all_eq_true]
  intro p hp
  have : ∀ (l : List Value), (∀ v ∈ l, Instr.sameBits n v v = true) → ∀ p ∈ l.zip l, Instr.sameBits n p.1 p.2 = true := by
    intro l
    induction l with
    | nil => intro _ p hp; simp at hp
    | cons a l ih =>
      intro h p hp
      simp only [List.zip_cons_cons, List.mem_cons] at hp
      rcases hp with rfl | hp
      · exact h a (by simp)
      · exact ih (fun v hv => h v (by simp [hv])) p hp
  exact this l h p hp
/-- the stamps of a map's entries -/
structure Born (es : Array MapEntry) (c : Nat) : Prop where
  lt : ∀ x ∈ es.toList, x.born < c
  nd : (es.toList.map (·.born)).Nodup
theorem Born.nil (c : Nat) : Born #[] c := ⟨by simp, by simp⟩
theorem Born.push {es : Array MapEntry} {c : Nat} (h : Born es c) (key val : Value) : Born (es.push ⟨key, val, c⟩) (c + 1) := by
  refine ⟨fun x hx => ?_, ?_⟩
  · rw [Array.toList_push, List.mem_append] at hx
    rcases hx with hx | hx
    · exact Nat.lt_succ_of_lt (h.lt x hx)
    · rw [List.mem_singleton] at hx; rw [hx]; exact Nat.lt_succ_self _
  · rw [Array.toList_push, List.map_append, List.nodup_append]
    refine ⟨h.nd, by simp, fun a ha b hb e => ?_⟩
    obtain ⟨x, hx, rfl⟩ := List.mem_map.1 ha
    simp at hb
    have := h.lt x hx
    omega
theorem Born.modify {es : Array MapEntry} {c : Nat} (h : Born es c) (i : Nat) (f : MapEntry → MapEntry) (hf : ∀ e, (f e).born = e.born) : Born (es.modify i f) c := by
  have hb : (es.modify i f).toList.map (·.born) = es.toList.map (·.born) := by
    apply List.ext_getElem?
    intro j
    simp only [List.getElem?_map, Array.getElem?_toList, Array.getElem?_modify]
    split
    · cases es[j]? <;> simp [hf]
    · rfl
  refine ⟨fun x hx => ?_, by rw [hb]; exact h.nd⟩
  have : x.born ∈ (es.modify i f).toList.map (·.born) := List.mem_map_of_mem hx
  rw [hb] at this
  obtain ⟨y, hy, e⟩ := List.mem_map.1 this
  rw [← e]; exact h.lt y hy
theorem Born.find {es : Array MapEntry} {c i : Nat} {x : MapEntry} (h : Born es c) (hx : es[i]? = some x) : es.findIdx? (fun e => (e.born : Int) == (x.born : Int)) = some i := by
  rw [Array.findIdx?_eq_some_iff_getElem]
  obtain ⟨hi, rfl⟩ := Array.getElem?_eq_some_iff.1 hx
  refine ⟨hi, by simp, fun j hj => ?_⟩
  simp only [beq_eq_false_iff_ne, ne_eq, Bool.not_eq_true]
  intro e
  have hji : j < es.size := Nat.lt_trans hj hi
  have := h.nd
  rw [List.nodup_iff_pairwise_ne, List.pairwise_iff_getElem] at this
  have := this j i (by simpa using hji) (by simpa using hi) hj
  simp at this
  exact this (by exact_mod_cast e)
section
variable {K D : Type} [DecidableEq K] (kv : K → Value) (cells : D → List Value) (e : TypeId) (sz : Nat) (l : List (K × D))
def MRows : List K → List MapEntry → Hp → Prop
  | [], [], H => H = []
  | k :: ks, x :: es, H => ∃ Hk Hr, H = Hk ++ Hr ∧ x.key = kv k ∧ SRow e sz x.val (lat l k).length ((lat l k).flatMap cells) Hk ∧ MRows ks es Hr
  | _, _, _ => False
/-- the map in block mb holds rows: what was appended is l -/
def MLog (mb : Nat) (H : Hp) : Prop := ∃ ks es c Hr, H = (mb, .map es c) :: Hr ∧ ks.Nodup ∧ (∀ x ∈ l, x.1 ∈ ks) ∧ MRows kv cells e sz l ks es.toList Hr ∧ Born es c
end
section
variable {K D : Type} [DecidableEq K] {kv : K → Value} {cells : D → List Value} {e : TypeId} {sz : Nat} {l : List (K × D)}
theorem MRows.keys : ∀ {ks : List K} {es : List MapEntry} {H : Hp}, MRows kv cells e sz l ks es H → es.map (·.key) = ks.map kv
  | [], [], _, _ => rfl
  | k :: ks, x :: es, _, h => by
    obtain ⟨Hk, Hr, _, h1, _, h2⟩ := h
    simp [h1, h2.keys]
  | [], _ :: _, _, h => h.elim
  | _ :: _, [], _, h => h.elim
theorem MRows.congr {l' : List (K × D)} : ∀ {ks : List K} {es : List MapEntry} {H : Hp}, (∀ k ∈ ks, lat l' k = lat l k) → MRows kv cells e sz l ks es H → MRows kv cells e sz l' ks es H
  | [], [], _, _, h => h
  | k :: ks, x :: es, _, hl, h => by
    obtain ⟨Hk, Hr, h0, h1, h2, h3⟩ := h
    exact ⟨Hk, Hr, h0, h1, by rw [hl k (by simp)]; exact h2, h3.congr fun q hq => hl q (by simp [hq])⟩
  | [], _ :: _, _, _, h => h.elim
  | _ :: _, [], _, _, h => h.elim
theorem MRows.get : ∀ {ks : List K} {es : List MapEntry} {H : Hp} {i : Nat} {k : K}, MRows kv cells e sz l ks es H → ks.Nodup → ks[i]? = some k → ∃ x Hk Hr, es[i]? = some x ∧ H.Perm (Hk ++ Hr) ∧ x.key = kv k ∧ SRow e sz x.val (lat l k).length ((lat l k).flatMap cells) Hk ∧
      ∀ (l' : List (K × D)) (y : MapEntry) (Hk' : Hp), y.key = kv k → (∀ q, q ≠ k → lat l' q = lat l q) → SRow e sz y.val (lat l' k).length ((lat l' k).flatMap cells) Hk' → ∃ H', MRows kv cells e sz l' ks (es.set i y) H' ∧ H'.Perm (Hk' ++ Hr)
  | [], _, _, _, _, _, _, h => by simp at h
  | _ :: _, [], _, _, _, h, _, _ => h.elim
  | q :: ks, x :: es, H, 0, k, h, hn, hi => by
    simp only [List.getElem?_cons_zero, Option.some.injEq] at hi
    subst hi
    rw [List.nodup_cons] at hn
    obtain ⟨Hk, Hr, h0, h1, h2, h3⟩ := h
    exact ⟨x, Hk, Hr, rfl, h0 ▸ .refl _, h1, h2, fun l' y Hk' g1 g2 g3 => ⟨Hk' ++ Hr, ⟨Hk', Hr, rfl, g1, g3, h3.congr fun z hz => g2 z (fun e => hn.1 (e ▸ hz))⟩, .refl _⟩⟩
  | q :: ks, x :: es, H, i + 1, k, h, hn, hi => by
    simp only [List.getElem?_cons_succ] at hi
    rw [List.nodup_cons] at hn
    obtain ⟨Hq, Ho, h0, h1, h2, h3⟩ := h
    obtain ⟨y, Hk, Hr, i1, i2, i3, i4, i5⟩ := h3.get hn.2 hi
    have hne : q ≠ k := fun e => hn.1 (e ▸ List.mem_of_getElem? hi)
    refine ⟨y, Hk, Hq ++ Hr, i1, ?_, i3, i4, fun l' z Hk' g1 g2 g3 => ?_⟩
    · rw [h0]
      refine (List.Perm.append_left Hq i2).trans ?_
      rw [← List.append_assoc, ← List.append_assoc]
      exact List.perm_append_comm.append_right _
    · obtain ⟨H', j1, j2⟩ := i5 l' z Hk' g1 g2 g3
      refine ⟨Hq ++ H', ⟨Hq, H', rfl, h1, by rw [g2 q hne]; exact h2, j1⟩, (List.Perm.append_left Hq j2).trans ?_⟩
      rw [← List.append_assoc, ← List.append_assoc]
      exact List.perm_append_comm.append_right _
theorem MRows.push : ∀ {ks : List K} {es : List MapEntry} {H : Hp} {k : K} {x : MapEntry} {Hk : Hp}, MRows kv cells e sz l ks es H → x.key = kv k → SRow e sz x.val (lat l k).length ((lat l k).flatMap cells) Hk → MRows kv cells e sz l (ks ++ [k]) (es ++ [x]) (H ++ Hk)
  | [], [], _, k, x, Hk, h, h1, h2 => by subst h; exact ⟨Hk, [], by simp, h1, h2, rfl⟩
  | q :: ks, y :: es, _, k, x, Hk, h, h1, h2 => by
    obtain ⟨Hq, Hr, rfl, g1, g2, g3⟩ := h
    exact ⟨Hq, Hr ++ Hk, by simp, g1, g2, g3.push h1 h2⟩
  | [], _ :: _, _, _, _, _, h, _, _ => h.elim
  | _ :: _, [], _, _, _, _, h, _, _ => h.elim
theorem lat_other {k q : K} {d : D} (h : q ≠ k) : lat (l ++ [(k, d)]) q = lat l q := by
  rw [lat_append]; simp [lat, Ne.symm h]
theorem lat_same {k : K} {d : D} : lat (l ++ [(k, d)]) k = lat l k ++ [d] := by
  rw [lat_append]; simp [lat]
/-- a map of rows, looked at under a key -/
theorem MLog.open {P : Program} {kt : TypeId} (hK : KeyT P kt kv) {mb : Nat} {H : Hp} (h : MLog kv cells e sz l mb H) (k : K) :
    ∃ es c sv Hk Hr, H.Perm ((mb, .map es c) :: (Hk ++ Hr)) ∧ SRow e sz sv (lat l k).length ((lat l k).flatMap cells) Hk ∧
      ((Finds P kt (kv k) es.toList none ∧ sv = .slice none 0 0 ∧ ∀ d sv' Hk', SRow e sz sv' (lat (l ++ [(k, d)]) k).length ((lat (l ++ [(k, d)]) k).flatMap cells) Hk' → ∃ H', MLog kv cells e sz (l ++ [(k, d)]) mb H' ∧ H'.Perm ((mb, .map (es.push ⟨kv k, sv', c⟩) (c + 1)) :: (Hk' ++ Hr))) ∨
       (∃ i x, Finds P kt (kv k) es.toList (some (i, sv)) ∧ es[i]? = some x ∧ x.key = kv k ∧ x.val = sv ∧ ∀ d sv' Hk', SRow e sz sv' (lat (l ++ [(k, d)]) k).length ((lat (l ++ [(k, d)]) k).flatMap cells) Hk' → ∃ H', MLog kv cells e sz (l ++ [(k, d)]) mb H' ∧ H'.Perm ((mb, .map (es.modify i fun y => { y with key := kv k, val := sv' }) c) :: (Hk' ++ Hr)))) := by
  obtain ⟨ks, es, c, Ho, rfl, hn, hl, hm, hbn⟩ := h
  by_cases hk : k ∈ ks
  · obtain ⟨i, hi⟩ := List.getElem?_of_mem hk
    obtain ⟨x, Hk, Hr, g1, g2, g3, g4, g5⟩ := hm.get hn hi
    have hx : es[i]? = some x := by rw [← Array.getElem?_toList]; exact g1
    refine ⟨es, c, x.val, Hk, Hr, .cons _ g2, g4, .inr ⟨i, x, hK.sf k es.toList ks i x hm.keys hn hi g1, hx, g3, rfl, fun d sv' Hk' hs => ?_⟩⟩
    obtain ⟨H', j1, j2⟩ := g5 (l ++ [(k, d)]) { x with key := kv k, val := sv' } Hk' rfl (fun q hq => lat_other hq) hs
    refine ⟨(mb, .map (es.modify i fun y => { y with key := kv k, val := sv' }) c) :: H', ⟨ks, _, c, H', rfl, hn, fun y hy => ?_, ?_, hbn.modify i _ fun _ => rfl⟩, .cons _ j2⟩
    · rcases List.mem_append.1 hy with hy | hy
      · exact hl y hy
      · simp at hy; rw [hy]; exact hk
    · have e1 : (es.modify i fun y => { y with key := kv k, val := sv' }).toList = es.toList.set i { x with key := kv k, val := sv' } := by
        apply List.ext_getElem?
        intro j
        rw [Array.getElem?_toList, Array.getElem?_modify, List.getElem?_set, Array.getElem?_toList]
        by_cases hij : i = j
        · subst hij
          have hlt : i < es.toList.length := (List.getElem?_eq_some_iff.1 g1).1
          simp only [if_true, hx, Option.map_some, if_pos hlt]
        · simp [hij]
      rw [e1]; exact j1
  · have hlat : lat l k = [] := by
      apply List.eq_nil_iff_forall_not_mem.2
      intro d hd
      exact hk (hl _ (lat_mem.1 hd))
    refine ⟨es, c, .slice none 0 0, [], Ho, .refl _, by rw [hlat]; exact SRow.nil _ _, .inl ⟨hK.nf k es.toList ks hm.keys hk, rfl, fun d sv' Hk' hs => ?_⟩⟩
    refine ⟨(mb, .map (es.push ⟨kv k, sv', c⟩) (c + 1)) :: (Ho ++ Hk'), ⟨ks ++ [k], _, _, _, rfl, ?_, fun y hy => ?_, ?_, hbn.push _ _⟩, .cons _ List.perm_append_comm⟩
    · rw [List.nodup_append]; exact ⟨hn, by simp, fun a ha b hb e => by simp at hb; subst hb; subst e; exact hk ha⟩
    · rcases List.mem_append.1 hy with hy | hy
      · exact List.mem_append_left _ (hl y hy)
      · simp at hy; simp [hy]
    · rw [Array.toList_push]
      exact (hm.congr fun q hq => lat_other (fun (e : q = k) => hk (e ▸ hq))).push rfl hs
/-- a map of rows whose entry under k is open: it holds sv -/
structure MOpn (kv : K → Value) (cells : D → List Value) (e : TypeId) (sz : Nat) (l : List (K × D)) (mb : Nat) (k : K) (es : Array MapEntry) (c i : Nat) (st : Int) (Hr : Hp) : Prop where
  find : es.findIdx? (fun x => (x.born : Int) == st) = some i
  close : ∀ d sv' Hk', SRow e sz sv' (lat (l ++ [(k, d)]) k).length ((lat (l ++ [(k, d)]) k).flatMap cells) Hk' → ∃ H', MLog kv cells e sz (l ++ [(k, d)]) mb H' ∧ H'.Perm ((mb, .map (es.modify i fun y => { y with val := sv' }) c) :: (Hk' ++ Hr))
theorem modify_key {es : Array MapEntry} {i : Nat} {x : MapEntry} {key : Value} (hx : es[i]? = some x) (hk : x.key = key) : (es.modify i fun y => { y with key := key }) = es := by
  apply Array.ext_getElem?
  intro j
  rw [Array.getElem?_modify]
  by_cases hij : i = j
  · subst hij; rw [if_pos rfl, hx]; simp only [Option.map_some]; rw [← hk]
  · rw [if_neg hij]
theorem MLog.entry {P : Program} {kt : TypeId} (hK : KeyT P kt kv) {mb : Nat} {H : Hp} (h : MLog kv cells e sz l mb H) (k : K) :
    ∃ es c es' c' i st sv Hk Hr, H.Perm ((mb, .map es c) :: (Hk ++ Hr)) ∧ SRow e sz sv (lat l k).length ((lat l k).flatMap cells) Hk ∧ MOpn kv cells e sz l mb k es' c' i st Hr ∧
      ((Finds P kt (kv k) es.toList none ∧ sv = .slice none 0 0 ∧ es' = es.push ⟨kv k, .slice none 0 0, c⟩ ∧ c' = c + 1 ∧ st = (c : Int)) ∨ (∃ j x, Finds P kt (kv k) es.toList (some (j, sv)) ∧ es[j]? = some x ∧ x.key = kv k ∧ es' = es ∧ c' = c ∧ st = (x.born : Int))) := by
  have h0 := h
  obtain ⟨ks, es, c, Ho, rfl, hn, hl, hm, hbn⟩ := h0
  by_cases hk : k ∈ ks
  · obtain ⟨i, hi⟩ := List.getElem?_of_mem hk
    obtain ⟨x, Hk, Hr, g1, g2, g3, g4, g5⟩ := hm.get hn hi
    have hx : es[i]? = some x := by rw [← Array.getElem?_toList]; exact g1
    refine ⟨es, c, es, c, i, x.born, x.val, Hk, Hr, .cons _ g2, g4, ⟨hbn.find hx, fun d sv' Hk' hs => ?_⟩, .inr ⟨i, x, hK.sf k es.toList ks i x hm.keys hn hi g1, hx, g3, rfl, rfl, rfl⟩⟩
    obtain ⟨H', j1, j2⟩ := g5 (l ++ [(k, d)]) { x with key := kv k, val := sv' } Hk' rfl (fun q hq => lat_other hq) hs
    refine ⟨(mb, .map (es.modify i fun y => { y with val := sv' }) c) :: H', ⟨ks, _, c, H', rfl, hn, fun y hy => ?_, ?_, hbn.modify i _ fun _ => rfl⟩, .cons _ j2⟩
    · rcases List.mem_append.1 hy with hy | hy
      · exact hl y hy
      · simp at hy; rw [hy]; exact hk
    · have e1 : (es.modify i fun y => { y with val := sv' }).toList = es.toList.set i { x with key := kv k, val := sv' } := by
        apply List.ext_getElem?
        intro j
        rw [Array.getElem?_toList, Array.getElem?_modify, List.getElem?_set, Array.getElem?_toList]
        by_cases hij : i = j
        · subst hij
          have hlt : i < es.toList.length := (List.getElem?_eq_some_iff.1 g1).1
          simp only [if_true, hx, Option.map_some, if_pos hlt]
          rw [← g3]
        · simp [hij]
      rw [e1]; exact j1
  · have hlat : lat l k = [] := by
      apply List.eq_nil_iff_forall_not_mem.2
      intro d hd
      exact hk (hl _ (lat_mem.1 hd))
    have hb2 := hbn.push (kv k) (.slice none 0 0)
    have hget : (es.push ⟨kv k, .slice none 0 0, c⟩)[es.size]? = some ⟨kv k, .slice none 0 0, c⟩ := by simp
    refine ⟨es, c, es.push ⟨kv k, .slice none 0 0, c⟩, c + 1, es.size, (c : Int), .slice none 0 0, [], Ho, .refl _, by rw [hlat]; exact SRow.nil _ _, ⟨hb2.find hget, fun d sv' Hk' hs => ?_⟩, .inl ⟨hK.nf k es.toList ks hm.keys hk, rfl, rfl, rfl, rfl⟩⟩
    have e2 : ((es.push ⟨kv k, .slice none 0 0, c⟩).modify es.size fun y => { y with val := sv' }) = es.push ⟨kv k, sv', c⟩ := by
      apply Array.ext_getElem?
      intro j
      rw [Array.getElem?_modify, Array.getElem?_push, Array.getElem?_push]
      by_cases hj : j = es.size
      · subst hj; simp
      · rw [if_neg (fun q => hj q.symm), if_neg hj, if_neg hj]
    rw [e2]
    refine ⟨(mb, .map (es.push ⟨kv k, sv', c⟩) (c + 1)) :: (Ho ++ Hk'), ⟨ks ++ [k], _, _, _, rfl, ?_, fun y hy => ?_, ?_, hbn.push _ _⟩, .cons _ List.perm_append_comm⟩
    · rw [List.nodup_append]; exact ⟨hn, by simp, fun a ha b hb e => by simp at hb; subst hb; subst e; exact hk ha⟩
    · rcases List.mem_append.1 hy with hy | hy
      · exact List.mem_append_left _ (hl y hy)
      · simp at hy; simp [hy]
    · rw [Array.toList_push]
      exact (hm.congr fun q hq => lat_other (fun (e : q = k) => hk (e ▸ hq))).push rfl hs
theorem MLog.nil (mb : Nat) (c : Nat) : MLog kv cells e sz ([] : List (K × D)) mb [(mb, .map #[] c)] := ⟨[], #[], c, [], rfl, List.nodup_nil, by simp, rfl, Born.nil c⟩
/-- the same map, lasting: adr tells where the rows lie -/
def mlF (P : Program) (kt : TypeId) (kv : K → Value) (cells : D → List Value) (mb : Nat) (l : List (K × D)) (adr : K → Option Addr × Nat) : Fct where
  p := fun v => v.im mb ∧ ∃ es c, v.w.heap[mb]? = some (.map es c) ∧ ∀ k, RowAt v (adr k).1 ((lat l k).flatMap cells) ∧
    ((Finds P kt (kv k) es.toList none ∧ Value.slice (adr k).1 (lat l k).length (adr k).2 = .slice none 0 0) ∨ ∃ i, Finds P kt (kv k) es.toList (some (i, .slice (adr k).1 (lat l k).length (adr k).2)))
  mono := fun v v' h ⟨h1, es, c, h2, h3⟩ => ⟨h.imUp mb h1, es, c, by rw [h.block mb h1]; exact h2, fun k => ⟨(rowF _ _).mono v v' h (h3 k).1, (h3 k).2⟩⟩
theorem mlF_row {P : Program} {kt : TypeId} {mb : Nat} {adr : K → Option Addr × Nat} {v : Vw} (h : (mlF P kt kv cells mb l adr).p v) (k : K) : RowAt v (adr k).1 ((lat l k).flatMap cells) := by
  obtain ⟨_, _, _, _, h⟩ := h
  exact (h k).1
theorem srow_lent {sv : Value} {n : Nat} {xs : List Value} {Hr : Hp} {v : Vw} (h : SRow e sz sv n xs Hr) (hv : ∀ p ∈ Hr, v.im p.1 ∧ v.w.heap[p.1]? = some p.2) : ∃ ad cap, sv = .slice ad n cap ∧ n ≤ cap ∧ cap ≤ maxLen ∧ (n ≠ 0 → ∃ b, ad = some ⟨b, 0, none⟩) ∧ RowAt v ad xs := by
  rcases h.2 with ⟨rfl, rfl, rfl⟩ | ⟨g, cap, cur, rfl, rfl, h3, h4, h5, h6⟩
  · have : xs = [] := List.eq_nil_of_length_eq_zero (by simpa using h.1)
    exact ⟨none, 0, rfl, Nat.le_refl _, by simp [maxLen], fun h => absurd rfl h, .inl this⟩
  · obtain ⟨g1, g2⟩ := hv _ (List.mem_singleton.2 rfl)
    refine ⟨some ⟨g, 0, none⟩, cap, rfl, h3, h4, fun _ => ⟨g, rfl⟩, .inr ⟨g, 0, cur, e, (0, 0), rfl, g1, g2, fun j x hj => ?_⟩⟩
    rw [← h6, List.getElem?_take] at hj
    split at hj
    · rw [Nat.zero_add, ← Array.getElem?_toList]; exact hj
    · cases hj
theorem MLog.lent {P : Program} {kt : TypeId} (hK : KeyT P kt kv) {mb : Nat} {H : Hp} (h : MLog kv cells e sz l mb H) : ∃ adr, ∀ v : Vw, (∀ p ∈ H, v.im p.1 ∧ v.w.heap[p.1]? = some p.2) → (mlF P kt kv cells mb l adr).p v := by
  have h0 := h
  obtain ⟨ks, es, c, Ho, rfl, hn, hl, hm, _⟩ := h0
  have key : ∀ k, ∃ q : Option Addr × Nat, ∀ v : Vw, (∀ p ∈ (mb, Obj.map es c) :: Ho, v.im p.1 ∧ v.w.heap[p.1]? = some p.2) → RowAt v q.1 ((lat l k).flatMap cells) ∧ ((Finds P kt (kv k) es.toList none ∧ Value.slice q.1 (lat l k).length q.2 = .slice none 0 0) ∨ ∃ i, Finds P kt (kv k) es.toList (some (i, .slice q.1 (lat l k).length q.2))) := fun k => by
    by_cases hk : k ∈ ks
    · obtain ⟨i, hi⟩ := List.getElem?_of_mem hk
      obtain ⟨x, Hk, Hr, g1, g2, g3, g4, _⟩ := hm.get hn hi
      have hf := hK.sf k es.toList ks i x hm.keys hn hi g1
      have hsl : ∃ ad cap, x.val = .slice ad (lat l k).length cap := by
        rcases g4.2 with ⟨q1, q2, _⟩ | ⟨g, cap, cur, q1, _⟩
        · exact ⟨none, 0, by rw [q1, q2]⟩
        · exact ⟨_, cap, q1⟩
      obtain ⟨ad, cap, hx⟩ := hsl
      refine ⟨(ad, cap), fun v hv => ⟨?_, .inr ⟨i, by rw [← hx]; exact hf⟩⟩⟩
      obtain ⟨ad', cap', e1, _, _, _, hr⟩ := srow_lent g4 fun p hp => hv p (List.mem_cons_of_mem _ (g2.mem_iff.2 (List.mem_append_left _ hp)))
      rw [hx] at e1
      simp only [Value.slice.injEq] at e1
      rw [e1.1]; exact hr
    · have hlat : lat l k = [] := by
        apply List.eq_nil_iff_forall_not_mem.2
        intro d hd
        exact hk (hl _ (lat_mem.1 hd))
      exact ⟨(none, 0), fun v hv => ⟨.inl (by rw [hlat]; rfl), .inl ⟨hK.nf k es.toList ks hm.keys hk, by rw [hlat]; rfl⟩⟩⟩
  refine ⟨fun k => (key k).choose, fun v hv => ?_⟩
  obtain ⟨g1, g2⟩ := hv _ List.mem_cons_self
  exact ⟨g1, es, c, g2, fun k => (key k).choose_spec v hv⟩
end
section
variable {P : Program} {K : Type} [DecidableEq K] {kv : K → Value} {kt : TypeId}
/-- the entries of a set of keys -/
structure SetE (kv : K → Value) (es : Array MapEntry) (q : List K) : Prop where
  keys : es.toList.map (·.key) = q.map kv
  vals : ∀ x ∈ es.toList, x.val = .bool true
  nd : q.Nodup
theorem SetE.nil : SetE kv #[] ([] : List K) := ⟨rfl, by simp, List.nodup_nil⟩
theorem SetE.size {es : Array MapEntry} {q : List K} (h : SetE kv es q) : es.size = q.length := by
  have := congrArg List.length h.keys
  simpa using this
theorem SetE.yes (hK : KeyT P kt kv) {es : Array MapEntry} {q : List K} (h : SetE kv es q) {k : K} (hk : k ∈ q) : ∃ i x, q[i]? = some k ∧ es[i]? = some x ∧ x.key = kv k ∧ x.val = .bool true ∧ Finds P kt (kv k) es.toList (some (i, .bool true)) := by
  obtain ⟨i, hi⟩ := List.getElem?_of_mem hk
  have hlt : i < es.toList.length := by
    have := (List.getElem?_eq_some_iff.1 hi).1
    have e := congrArg List.length h.keys
    simp at e this ⊢; omega
  have hx := List.getElem?_eq_getElem hlt
  have hv := h.vals _ (List.getElem_mem hlt)
  have hkey : es.toList[i].key = kv k := by
    have := congrArg (fun l => l[i]?) h.keys
    simp only [List.getElem?_map, hx, hi, Option.map_some, Option.some.injEq] at this
    exact this
  refine ⟨i, es.toList[i], hi, by rw [← Array.getElem?_toList]; exact hx, hkey, hv, ?_⟩
  have := hK.sf k es.toList q i _ h.keys h.nd hi hx
  rwa [hv] at this
theorem SetE.no (hK : KeyT P kt kv) {es : Array MapEntry} {q : List K} (h : SetE kv es q) {k : K} (hk : k ∉ q) : Finds P kt (kv k) es.toList none := hK.nf k es.toList q h.keys hk
theorem SetE.push {es : Array MapEntry} {q : List K} (h : SetE kv es q) {k : K} (hk : k ∉ q) (c : Nat) : SetE kv (es.push ⟨kv k, .bool true, c⟩) (q ++ [k]) := by
  refine ⟨by simp [h.keys], fun x hx => ?_, ?_⟩
  · rw [Array.toList_push, List.mem_append] at hx
    rcases hx with hx | hx
    · exact h.vals x hx
    · simp at hx; rw [hx]
  · rw [List.nodup_append]; exact ⟨h.nd, by simp, fun a ha b hb e => by simp at hb; subst hb; subst e; exact hk ha⟩
end
section ops
variable {P : Program} {N : Nat} {v0 : Vw} {H0 : Hp} {R : Exit → Act → World → Prop} {Kk : List Kt} {fr : Fr} {H : Hp} {Γ : List Fct}
variable {ops : Array Oper} {lo : List Oper} {d : Nat} {ty : TypeId} {ps : String} {af : Array Edge}
variable {K D : Type} [DecidableEq K] {kv : K → Value} {cells : D → List Value}
/-- a look into a lasting map of rows -/
theorem yld_lookF {t kt et : TypeId} {x y : Operand} {mb : Nat} {l : List (K × D)} {adr : K → Option Addr × Nat} {k : K} (hK : KeyT P kt kv) (hu : ∀ w, (underlying t).run P w = .ok (.map kt et) w) (hz : ∀ w, (zeroValue et).run P w = .ok (.slice none 0 0) w) (hx : Fr.ev fr x = some (.map (some mb))) (hy : Fr.ev fr y = some (kv k))
    (hm : ∀ v, v.sat H → holds Γ v → (mlF P kt kv cells mb l adr).p v) : Yld P N fr H Γ (.lookup t x y false) ty (.slice (adr k).1 (lat l k).length (adr k).2) :=
  fun a v h1 h2 h4 _ _ _ => by
    obtain ⟨_, es, c, g1, g2⟩ := hm v h2 h4
    have hb := MapKept.run_getObj_map (P := P) g1
    rcases (g2 k).2 with ⟨q5, q6⟩ | ⟨i, q5⟩
    · rw [q6]; simp [execOp, h1.ev hx, h1.ev hy, Instr.lookup, hu, hb, hK.ok _ _ _, q5 _, hz]
    · simp [execOp, h1.ev hx, h1.ev hy, Instr.lookup, hu, hb, hK.ok _ _ _, q5 _]
/-- a look into a set -/
theorem yld_lookSet {t kt et : TypeId} {x y : Operand} {mb c : Nat} {es : Array MapEntry} {q : List K} {k : K} (hK : KeyT P kt kv) (hu : ∀ w, (underlying t).run P w = .ok (.map kt et) w) (hz : ∀ w, (zeroValue et).run P w = .ok (.bool false) w) (hx : Fr.ev fr x = some (.map (some mb))) (hy : Fr.ev fr y = some (kv k))
    (hq : SetE kv es q) (hm : ∀ v, v.sat H → holds Γ v → v.w.heap[mb]? = some (.map es c)) : Yld P N fr H Γ (.lookup t x y false) ty (.bool (decide (k ∈ q))) := by
  by_cases hk : k ∈ q
  · obtain ⟨i, _, _, _, _, _, hf⟩ := hq.yes hK hk
    rw [decide_eq_true hk]
    exact yld_lookup hu hx hy hm (hK.ok k) hf
  · rw [decide_eq_false hk]
    exact yld_lookupNo hu hz hx hy hm (hK.ok k) (hq.no hK hk)
theorem yld_lenM {t kt et : TypeId} {x : Operand} {mb c : Nat} {es : Array MapEntry} (hu : ∀ w, (underlying t).run P w = .ok (.map kt et) w) (hx : Fr.ev fr x = some (.map (some mb))) (hm : ∀ v, v.sat H → holds Γ v → v.w.heap[mb]? = some (.map es c)) :
    Yld P N fr H Γ (.call ⟨.builtin .len, #[x], #[t]⟩) ty (.int .i64 (es.size : Int)) :=
  fun a v h1 h2 h4 _ _ _ => by
    have hb := MapKept.run_getObj_map (P := P) (hm v h2 h4)
    simp [execOp, resolve, invoke, builtin, Builtin.len_, h1.ev hx, hu, hb, goInt]
/-- a map of one's own turns: the key is there -/
theorem ops_update {o : Op} {t kt et : TypeId} {x y z : Operand} {b c i : Nat} (n : Nat) {es : Array MapEntry} {e : MapEntry} {k : K} {u u' : Value} (hK : KeyT P kt kv) (ho : o = .insert t x y z ∨ o = .mapUpdate t x y z) (hu : ∀ w, (underlying t).run P w = .ok (.map kt et) w)
    (hx : Fr.ev fr x = some (.map (some b))) (hy : Fr.ev fr y = some (kv k)) (hz : Fr.ev fr z = some u) (hi : H[n]? = some (b, .map es c)) (hf : Finds P kt (kv k) es.toList (some (i, u'))) (he : es[i]? = some e) (hek : e.key = kv k)
    (hkk : Ops P R N v0 H0 ops lo Kk fr (H.set n (b, .map (es.modify i fun y => { y with key := kv k, val := u }) c)) Γ) : Ops P R N v0 H0 ops (⟨none, o, ty, ps, af, none⟩ :: lo) Kk fr H Γ :=
  ops_of_wp rfl fun a v h1 h2 h3 h4 => by
    have hb := (h2.own _ (List.mem_of_getElem? hi)).1
    have hg := MapKept.run_getObj_map (P := P) hb
    have hs := MapKept.run_setObj_map (P := P) (.map (es.modify i fun y => { y with key := kv k, val := u }) c) hb
    have he : (execOp a.eval ⟨none, o, ty, ps, af, none⟩).run P v.w = .ok .skip { v.w with heap := v.w.heap.setIfInBounds b (.map (es.modify i fun y => { y with key := kv k, val := u }) c) } := by
      rcases ho with rfl | rfl <;> simp [execOp, h1.ev hx, h1.ev hy, h1.ev hz, Instr.mapUpdate, hu, hg, hK.ok _ _ _, hf _, hs, Instr.keyThatStays, he, hek, hK.same]
    unfold Oper.wp
    rw [he]
    have hh := MapKept.heap_set (o' := .map (es.modify i fun y => { y with key := kv k, val := u }) c) hb
    obtain ⟨g1, g2⟩ := sat_set (w' := { v.w with heap := v.w.heap.setIfInBounds b (.map (es.modify i fun y => { y with key := kv k, val := u }) c) }) h2 hi rfl rfl rfl (Nat.le_refl _) (by simp) hh.1 (fun k hk => hh.2 k hk)
    exact hkk a _ h1 g1 (h3.trans g2) (holds_mono (g2.le h2) h4)
theorem modify_same {es : Array MapEntry} {i : Nat} {e : MapEntry} {key val : Value} (he : es[i]? = some e) (hk : e.key = key) (hv : e.val = val) : (es.modify i fun y => { y with key := key, val := val }) = es := by
  apply Array.ext_getElem?
  intro j
  rw [Array.getElem?_modify]
  by_cases hij : i = j
  · subst hij; rw [if_pos rfl, he]; simp only [Option.map_some]; rw [← hk, ← hv]
  · rw [if_neg hij]
/-- a key joins a set -/
theorem ops_join {o : Op} {t kt et : TypeId} {x y z : Operand} {b c : Nat} (n : Nat) {es : Array MapEntry} {q : List K} {k : K} (hK : KeyT P kt kv) (ho : o = .insert t x y z ∨ o = .mapUpdate t x y z) (hu : ∀ w, (underlying t).run P w = .ok (.map kt et) w)
    (hx : Fr.ev fr x = some (.map (some b))) (hy : Fr.ev fr y = some (kv k)) (hz : Fr.ev fr z = some (.bool true)) (hi : H[n]? = some (b, .map es c)) (hq : SetE kv es q)
    (hkk : ∀ es' c', SetE kv es' (if k ∈ q then q else q ++ [k]) → Ops P R N v0 H0 ops lo Kk fr (H.set n (b, .map es' c')) Γ) : Ops P R N v0 H0 ops (⟨none, o, ty, ps, af, none⟩ :: lo) Kk fr H Γ := by
  by_cases hk : k ∈ q
  · obtain ⟨i, e, g1, g2, g3, g4, g5⟩ := hq.yes hK hk
    refine ops_update n hK ho hu hx hy hz hi g5 g2 g3 ?_
    rw [modify_same g2 g3 g4]
    exact hkk es c (by rw [if_pos hk]; exact hq)
  · exact ops_insert n ho hu hx hy hz hi (hK.ok k) (hq.no hK hk) (hkk _ _ (by rw [if_neg hk]; exact hq.push hk c))
/-- an entry of a map of rows is opened -/
theorem ops_entry {t kt et : TypeId} {x y : Operand} {mb : Nat} {e : TypeId} {sz : Nat} {l : List (K × D)} {k : K} {Hm F : Hp} (hK : KeyT P kt kv) (hm : MLog kv cells e sz l mb Hm) (hu : ∀ w, (underlying t).run P w = .ok (.map kt et) w) (hz : ∀ w, (zeroValue et).run P w = .ok (.slice none 0 0) w)
    (hx : Fr.ev fr x = some (.map (some mb))) (hy : Fr.ev fr y = some (kv k)) (hH : H.Perm (Hm ++ F)) (hN : Nat.blt d N = true)
    (hk : ∀ es c i st sv Hk Hr, MOpn kv cells e sz l mb k es c i st Hr → SRow e sz sv (lat l k).length ((lat l k).flatMap cells) Hk → Ops P R N v0 H0 ops lo Kk ((d, .tuple #[sv, .int .i64 st]) :: fr) ((mb, .map es c) :: (Hk ++ (Hr ++ F))) Γ) :
    Ops P R N v0 H0 ops (⟨some d, .mapEntry t x y, ty, ps, af, none⟩ :: lo) Kk fr H Γ := by
  obtain ⟨es, c, es', c', i, st, sv, Hk, Hr, p1, p2, p3, p4⟩ := hm.entry hK k
  refine ops_of_wp rfl fun a v h1 h2 h3 h4 => ?_
  have hp : H.Perm ((mb, .map es c) :: (Hk ++ (Hr ++ F))) := hH.trans (by
    have := p1.append_right F
    simpa [List.append_assoc] using this)
  have h2' := h2.perm hp
  have hb := (h2'.own _ List.mem_cons_self).1
  have hg := MapKept.run_getObj_map (P := P) hb
  have he : (execOp a.eval ⟨some d, .mapEntry t x y, ty, ps, af, none⟩).run P v.w = .ok (.value (.tuple #[sv, .int .i64 st])) { v.w with heap := v.w.heap.setIfInBounds mb (.map es' c') } := by
    rcases p4 with ⟨q1, rfl, rfl, rfl, rfl⟩ | ⟨j, z, q1, q2, q3, rfl, rfl, rfl⟩
    · have hs := MapKept.run_setObj_map (P := P) (.map (es.push ⟨kv k, .slice none 0 0, c⟩) (c + 1)) hb
      simp [execOp, h1.ev hx, h1.ev hy, Instr.mapEntry, hu, hg, hK.ok _ _ _, q1 _, hz, hs, goInt]
    · have hs := MapKept.run_setObj_map (P := P) (.map es' c') hb
      simp [execOp, h1.ev hx, h1.ev hy, Instr.mapEntry, hu, hg, hK.ok _ _ _, q1 _, Instr.keyThatStays, q2, q3, hK.same, modify_key q2 q3, hs, goInt]
  unfold Oper.wp
  rw [he]
  have hh := MapKept.heap_set (o' := .map es' c') hb
  obtain ⟨g1, g2⟩ := sat_set (i := 0) (o' := .map es' c') (w' := { v.w with heap := v.w.heap.setIfInBounds mb (.map es' c') }) h2' rfl rfl rfl rfl (Nat.le_refl _) (by simp) hh.1 (fun k hk => hh.2 k hk)
  simp only [List.set_cons_zero] at g1 g2
  exact hk es' c' i st sv Hk Hr p3 p2 _ _ (h1.put hN) g1 (h3.trans (g2.permL hp.symm)) (holds_mono (g2.le h2') h4)
theorem ops_entryStore {t : TypeId} {x y z : Operand} {mb c i : Nat} {e : TypeId} {sz : Nat} {l : List (K × D)} {k : K} {dd : D} {es : Array MapEntry} {st : Int} {sv : Value} {Hk Hr F : Hp} (ho : MOpn kv cells e sz l mb k es c i st Hr) (hr : SRow e sz sv (lat (l ++ [(k, dd)]) k).length ((lat (l ++ [(k, dd)]) k).flatMap cells) Hk)
    (hx : Fr.ev fr x = some (.map (some mb))) (hy : Fr.ev fr y = some (.int .i64 st)) (hz : Fr.ev fr z = some sv) (hH : H.Perm ((mb, .map es c) :: (Hk ++ (Hr ++ F))))
    (hk : ∀ H', MLog kv cells e sz (l ++ [(k, dd)]) mb H' → Ops P R N v0 H0 ops lo Kk fr (H' ++ F) Γ) : Ops P R N v0 H0 ops (⟨none, .entryStore t x y z, ty, ps, af, none⟩ :: lo) Kk fr H Γ := by
  obtain ⟨H', q1, q2⟩ := ho.close dd sv Hk hr
  refine ops_of_wp rfl fun a v h1 h2 h3 h4 => ?_
  have h2' := h2.perm hH
  have hb := (h2'.own _ List.mem_cons_self).1
  have hg := MapKept.run_getObj_map (P := P) hb
  have hs := MapKept.run_setObj_map (P := P) (.map (es.modify i fun y => { y with val := sv }) c) hb
  have he : (execOp a.eval ⟨none, .entryStore t x y z, ty, ps, af, none⟩).run P v.w = .ok .skip { v.w with heap := v.w.heap.setIfInBounds mb (.map (es.modify i fun y => { y with val := sv }) c) } := by
    have hf := ho.find
    simp [execOp, h1.ev hx, h1.ev hy, h1.ev hz, Instr.entryStore, hg, hs, asInt, asIntOf, hf]
  unfold Oper.wp
  rw [he]
  have hh := MapKept.heap_set (o' := .map (es.modify i fun y => { y with val := sv }) c) hb
  obtain ⟨g1, g2⟩ := sat_set (i := 0) (o' := .map (es.modify i fun y => { y with val := sv }) c) (w' := { v.w with heap := v.w.heap.setIfInBounds mb (.map (es.modify i fun y => { y with val := sv }) c) }) h2' rfl rfl rfl rfl (Nat.le_refl _) (by simp) hh.1 (fun k hk => hh.2 k hk)
  simp only [List.set_cons_zero] at g1 g2
  have pp : ((mb, Obj.map (es.modify i fun y => { y with val := sv }) c) :: (Hk ++ (Hr ++ F))).Perm (H' ++ F) := by
    have := (q2.append_right F).symm
    simpa [List.append_assoc] using this
  exact hk H' q1 _ _ h1 (g1.perm pp) (h3.trans ((g2.permL hH.symm).subR fun b hb => ((pp.map Prod.fst).mem_iff).2 hb)) (holds_mono (g2.le h2') h4)
/-- a map of rows that is opened at a key: it holds sv there -/
def MOp (P : Program) (kt : TypeId) (kv : K → Value) (cells : D → List Value) (e : TypeId) (sz : Nat) (l : List (K × D)) (mb : Nat) (k : K) (es : Array MapEntry) (c : Nat) (sv : Value) (Hr : Hp) : Prop :=
  (Finds P kt (kv k) es.toList none ∧ sv = .slice none 0 0 ∧ ∀ d sv' Hk', SRow e sz sv' (lat (l ++ [(k, d)]) k).length ((lat (l ++ [(k, d)]) k).flatMap cells) Hk' → ∃ H', MLog kv cells e sz (l ++ [(k, d)]) mb H' ∧ H'.Perm ((mb, .map (es.push ⟨kv k, sv', c⟩) (c + 1)) :: (Hk' ++ Hr))) ∨
  (∃ i x, Finds P kt (kv k) es.toList (some (i, sv)) ∧ es[i]? = some x ∧ x.key = kv k ∧ x.val = sv ∧ ∀ d sv' Hk', SRow e sz sv' (lat (l ++ [(k, d)]) k).length ((lat (l ++ [(k, d)]) k).flatMap cells) Hk' → ∃ H', MLog kv cells e sz (l ++ [(k, d)]) mb H' ∧ H'.Perm ((mb, .map (es.modify i fun y => { y with key := kv k, val := sv' }) c) :: (Hk' ++ Hr)))
theorem ok_open {k0 : Act → World → Prop} {kt : TypeId} {mb : Nat} {e : TypeId} {sz : Nat} {l : List (K × D)} {Hm F : Hp} (hK : KeyT P kt kv) (k : K) (hm : MLog kv cells e sz l mb Hm) (hH : H.Perm (Hm ++ F))
    (h : ∀ es c sv Hk Hr, SRow e sz sv (lat l k).length ((lat l k).flatMap cells) Hk → MOp P kt kv cells e sz l mb k es c sv Hr → Ok N v0 H0 k0 fr ((mb, .map es c) :: (Hk ++ (Hr ++ F))) Γ) : Ok N v0 H0 k0 fr H Γ := by
  obtain ⟨es, c, sv, Hk, Hr, p1, p2, p3⟩ := hm.open hK k
  refine ok_perm (hH.trans (by
    have := p1.append_right F
    simpa [List.append_assoc] using this)) (h es c sv Hk Hr p2 p3)
theorem yld_lookO {t kt et : TypeId} {x y : Operand} {mb c : Nat} {e : TypeId} {sz : Nat} {l : List (K × D)} {k : K} {es : Array MapEntry} {sv : Value} {Hr : Hp} (hK : KeyT P kt kv) (ho : MOp P kt kv cells e sz l mb k es c sv Hr) (hu : ∀ w, (underlying t).run P w = .ok (.map kt et) w) (hz : ∀ w, (zeroValue et).run P w = .ok (.slice none 0 0) w)
    (hx : Fr.ev fr x = some (.map (some mb))) (hy : Fr.ev fr y = some (kv k)) (i : Nat) (hi : H[i]? = some (mb, .map es c)) : Yld P N fr H Γ (.lookup t x y false) ty sv := by
  have hm : ∀ v, v.sat H → holds Γ v → v.w.heap[mb]? = some (.map es c) := fun v h _ => (h.own _ (List.mem_of_getElem? hi)).1
  rcases ho with ⟨h1, rfl, _⟩ | ⟨i, z, h1, _⟩
  · exact yld_lookupNo hu hz hx hy hm (hK.ok k) h1
  · exact yld_lookup hu hx hy hm (hK.ok k) h1
theorem ops_closeU {o : Op} {t kt et : TypeId} {x y z : Operand} {mb c : Nat} {e : TypeId} {sz : Nat} {l : List (K × D)} {k : K} {dd : D} {es : Array MapEntry} {sv sv' : Value} {Hk Hr F : Hp} (hK : KeyT P kt kv) (ho : MOp P kt kv cells e sz l mb k es c sv Hr) (hr : SRow e sz sv' (lat (l ++ [(k, dd)]) k).length ((lat (l ++ [(k, dd)]) k).flatMap cells) Hk)
    (hop : o = .insert t x y z ∨ o = .mapUpdate t x y z) (hu : ∀ w, (underlying t).run P w = .ok (.map kt et) w) (hx : Fr.ev fr x = some (.map (some mb))) (hy : Fr.ev fr y = some (kv k)) (hz : Fr.ev fr z = some sv') (hH : H.Perm ((mb, .map es c) :: (Hk ++ (Hr ++ F))))
    (hk : ∀ H', MLog kv cells e sz (l ++ [(k, dd)]) mb H' → Ops P R N v0 H0 ops lo Kk fr (H' ++ F) Γ) : Ops P R N v0 H0 ops (⟨none, o, ty, ps, af, none⟩ :: lo) Kk fr H Γ := by
  refine ok_perm hH ?_
  rcases ho with ⟨h1, _, h2⟩ | ⟨i, q, h1, h3, h4, _, h2⟩
  · obtain ⟨H', q1, q2⟩ := h2 dd sv' Hk hr
    refine ops_insert 0 hop hu hx hy hz rfl (hK.ok k) h1 ?_
    simp only [List.set_cons_zero]
    exact ok_perm (by have := (q2.append_right F).symm; simpa [List.append_assoc] using this) (hk H' q1)
  · obtain ⟨H', q1, q2⟩ := h2 dd sv' Hk hr
    refine ops_update 0 hK hop hu hx hy hz rfl h1 h3 h4 ?_
    simp only [List.set_cons_zero]
    exact ok_perm (by have := (q2.append_right F).symm; simpa [List.append_assoc] using this) (hk H' q1)
theorem pf_assoc {b : Nat × Obj} {O Q F : Hp} (h : H.Perm ((b :: (O ++ Q)) ++ F)) : H.Perm (b :: (O ++ (Q ++ F))) := by simpa [List.append_assoc] using h
theorem pf_f1 {b : Nat × Obj} {F : Hp} (h : H.Perm ([b] ++ F)) : H.Perm (b :: F) := h
theorem pf_fB {b : Nat × Obj} {F F' : Hp} (h : H.Perm ([b] ++ F)) (h2 : F.Perm F') : H.Perm (b :: F') := List.Perm.trans h (h2.cons b)
theorem run_scope {fn : Func} {Rr : Ending → World → Prop} {c : Code} (h : Run P (bodyPost P fn Rr) N v0 H0 c [] fr H Γ) : Run P (bodyPost P fn Rr) N v0 H0 (.scope c) [] fr H Γ :=
  fun a v h1 h2 h3 h4 => wp_scope_straight (wp_mono (h a v h1 h2 h3 h4) fun e a w hq => by cases e <;> exact hq)
theorem run_label {c : Nat} (h : Fin P R N v0 H0 Kk fr H Γ) : Run P R N v0 H0 (.label c) Kk fr H Γ :=
  fun a v h1 h2 h3 h4 => wp_label (h a v h1 h2 h3 h4)
end ops
end Go.Sx
namespace Go.Sx
open Go
set_option linter.unusedSectionVars false
set_option linter.unusedVariables false
section
variable {P : Program} {N : Nat} {v0 : Vw} {H0 : Hp} {R : Exit → Act → World → Prop} {Kk : List Kt} {fr : Fr} {H : Hp} {Γ : List Fct}
variable {ops : Array Oper} {lo : List Oper} {d : Nat} {ty : TypeId} {ps : String} {af : Array Edge}
variable {K : Type} [DecidableEq K] {kv : K → Value}
/-- a key joins a set; the stamps stay in order -/
theorem ops_joinB {o : Op} {t kt et : TypeId} {x y z : Operand} {b c : Nat} (n : Nat) {es : Array MapEntry} {q : List K} {k : K} (hK : KeyT P kt kv) (ho : o = .insert t x y z ∨ o = .mapUpdate t x y z) (hu : ∀ w, (underlying t).run P w = .ok (.map kt et) w)
    (hx : Fr.ev fr x = some (.map (some b))) (hy : Fr.ev fr y = some (kv k)) (hz : Fr.ev fr z = some (.bool true)) (hi : H[n]? = some (b, .map es c)) (hq : SetE kv es q)
    (hkk : ∀ es' c', SetE kv es' (if k ∈ q then q else q ++ [k]) → (Born es c → Born es' c') → Ops P R N v0 H0 ops lo Kk fr (H.set n (b, .map es' c')) Γ) : Ops P R N v0 H0 ops (⟨none, o, ty, ps, af, none⟩ :: lo) Kk fr H Γ := by
  by_cases hk : k ∈ q
  · obtain ⟨i, e, g1, g2, g3, g4, g5⟩ := hq.yes hK hk
    refine ops_update n hK ho hu hx hy hz hi g5 g2 g3 ?_
    rw [modify_same g2 g3 g4]
    exact hkk es c (by rw [if_pos hk]; exact hq) id
  · exact ops_insert n ho hu hx hy hz hi (hK.ok k) (hq.no hK hk) (hkk _ _ (by rw [if_neg hk]; exact hq.push hk c) (fun hB => hB.push _ _))
theorem ops_range {t kt et : TypeId} {x : Operand} {b c : Nat} (n : Nat) {es : Array MapEntry} (hu : P.underlying t = some (.map kt et)) (hx : Fr.ev fr x = some (.map (some b))) (hi : H[n]? = some (b, .map es c)) (hN : Nat.blt d N = true)
    (hk : ∀ r, Ops P R N v0 H0 ops lo Kk ((d, .pointer (some ⟨r, 0, none⟩)) :: fr) ((r, .mapIter (some b) c #[] c) :: H) Γ) : Ops P R N v0 H0 ops (⟨some d, .range t x, ty, ps, af, none⟩ :: lo) Kk fr H Γ :=
  ops_new (x := fun b => .pointer (some ⟨b, 0, none⟩)) hN (fun a v h1 h2 _ => by
    have hb := (h2.own _ (List.mem_of_getElem? hi)).1
    simp [execOp, h1.ev hx, run_range_map v.w t kt et b es c hu hb]) hk
theorem ops_next {it : Operand} {b r c since c0 : Nat} {es : Array MapEntry} {seen : Array Nat} (n m : Nat) (hit : Fr.ev fr it = some (.pointer (some ⟨r, 0, none⟩))) (hr : H[n]? = some (r, .mapIter (some b) since seen c0)) (hb : H[m]? = some (b, .map es c)) (hold : ∀ x ∈ es.toList, x.born < since) (hsc : since ≤ c0) (hN : Nat.blt d N = true)
    (h0 : (leftOf es seen).size = 0 → Ops P R N v0 H0 ops lo Kk ((d, .tuple #[.bool false]) :: fr) H Γ)
    (hk : ∀ e, e ∈ (leftOf es seen).toList → Ops P R N v0 H0 ops lo Kk ((d, .tuple #[.bool true, e.key, e.val]) :: fr) (H.set n (r, .mapIter (some b) since (seen.push e.born) c)) Γ) : Ops P R N v0 H0 ops (⟨some d, .next it false, ty, ps, af, none⟩ :: lo) Kk fr H Γ :=
  ops_of_wp rfl fun a v h1 h2 h3 h4 => by
    have hrr := (h2.own _ (List.mem_of_getElem? hr)).1
    have hbb := (h2.own _ (List.mem_of_getElem? hb)).1
    unfold Oper.wp
    rcases run_next_at (P := P) v.w ty r b since c0 seen es c hrr hbb hold hsc with ⟨e0, hrun⟩ | ⟨e, he, w1, hal, hrun⟩
    · have hx : (execOp a.eval ⟨some d, .next it false, ty, ps, af, none⟩).run P v.w = .ok (.value (.tuple #[.bool false])) v.w := by simp [execOp, h1.ev hit, hrun]
      rw [hx]
      exact h0 e0 _ v (h1.put hN) h2 h3 h4
    · have hx : (execOp a.eval ⟨some d, .next it false, ty, ps, af, none⟩).run P v.w = .ok (.value (.tuple #[.bool true, e.key, e.val])) (ChangeMaps.setBlock w1 r (.mapIter (some b) since (seen.push e.born) c)) := by simp [execOp, h1.ev hit, hrun]
      rw [hx]
      have hr1 : w1.heap[r]? = some (.mapIter (some b) since seen c0) := by rcases hal with rfl | rfl <;> exact hrr
      have hlt : r < w1.heap.size := (Array.getElem?_eq_some_iff.1 hr1).1
      have hw : w1.heap = v.w.heap := by rcases hal with rfl | rfl <;> rfl
      have hdr : v.w.drawn ≤ w1.drawn := by
        rcases hal with rfl | rfl
        · exact Nat.le_refl _
        · exact Nat.le_succ _
      obtain ⟨g1, g2⟩ := sat_set (w' := ChangeMaps.setBlock w1 r (.mapIter (some b) since (seen.push e.born) c)) h2 hr (by rcases hal with rfl | rfl <;> rfl) (by rcases hal with rfl | rfl <;> rfl) (by rcases hal with rfl | rfl <;> rfl) hdr (by simp [ChangeMaps.setBlock, hw])
        (by simp only [ChangeMaps.setBlock]; rw [Array.getElem?_setIfInBounds_self_of_lt hlt]) (fun k hk => by simp only [ChangeMaps.setBlock]; rw [Array.getElem?_setIfInBounds_ne (Ne.symm hk), hw])
      exact hk e he _ ⟨v.im, _, v.sl⟩ (h1.put hN) g1 (h3.trans g2) (holds_mono (g2.le h2) h4)
theorem yld_entry {it : Operand} {b r c since : Nat} {es : Array MapEntry} {seen : Array Nat} {e : MapEntry} (n m : Nat) (hit : Fr.ev fr it = some (.pointer (some ⟨r, 0, none⟩))) (hr : H[n]? = some (r, .mapIter (some b) since (seen.push e.born) c)) (hb : H[m]? = some (b, .map es c)) (he : e ∈ es.toList) (hB : Born es c) :
    Yld P N fr H Γ (.entry it) ty (.tuple #[e.key, e.val]) :=
  fun a v h1 h2 _ _ _ _ => by
    have := run_entry_at (P := P) v.w r b since seen es c e (h2.own _ (List.mem_of_getElem? hr)).1 (h2.own _ (List.mem_of_getElem? hb)).1 he hB.nd
    simp [execOp, h1.ev hit, this]
/-- what a range over a set has handed out -/
structure ItS (kv : K → Value) (es : Array MapEntry) (seen : Array Nat) (done : List K) : Prop where
  nd : done.Nodup
  mem : ∀ e ∈ es.toList, seen.contains e.born = true ↔ ∃ k ∈ done, e.key = kv k
  sub : ∀ k ∈ done, ∃ e ∈ es.toList, e.key = kv k
theorem ItS.nil {es : Array MapEntry} : ItS kv es #[] [] := ⟨List.nodup_nil, fun e _ => by simp, fun k hk => by simp at hk⟩
theorem SetE.entry {es : Array MapEntry} {q : List K} (hE : SetE kv es q) (hi : ∀ x y, kv x = kv y → x = y) {x e : MapEntry} (hx : x ∈ es.toList) (he : e ∈ es.toList) (h : x.key = e.key) : x = e := by
  obtain ⟨i, hi1, hi2⟩ := List.getElem_of_mem hx
  obtain ⟨j, hj1, hj2⟩ := List.getElem_of_mem he
  have hl := congrArg List.length hE.keys
  simp only [List.length_map] at hl
  have key : ∀ (k : Nat) (hk : k < es.toList.length), es.toList[k].key = kv (q[k]'(by omega)) := fun k hk => by
    have := congrArg (fun l => l[k]?) hE.keys
    simp only [List.getElem?_map] at this
    rw [List.getElem?_eq_getElem hk, List.getElem?_eq_getElem (by omega)] at this
    simpa using this
  have e1 := key i hi1
  have e2 := key j hj1
  rw [hi2] at e1
  rw [hj2] at e2
  have e3 := hi _ _ (e1.symm.trans (h.trans e2))
  have hij : i = j := by
    rcases Nat.lt_trichotomy i j with h1 | h1 | h1
    · exact absurd e3 (List.pairwise_iff_getElem.1 hE.nd i j (by omega) (by omega) h1)
    · exact h1
    · exact absurd e3.symm (List.pairwise_iff_getElem.1 hE.nd j i (by omega) (by omega) h1)
  subst hij
  rw [← hi2, ← hj2]
theorem SetE.ofKey {es : Array MapEntry} {q : List K} (hE : SetE kv es q) {e : MapEntry} (he : e ∈ es.toList) : ∃ k ∈ q, e.key = kv k := by
  have : e.key ∈ es.toList.map (·.key) := List.mem_map_of_mem he
  rw [hE.keys] at this
  obtain ⟨k, hk, h⟩ := List.mem_map.1 this
  exact ⟨k, hk, h.symm⟩
theorem ItS.step {es : Array MapEntry} {q : List K} {c : Nat} {seen : Array Nat} {done : List K} {e : MapEntry} (hi : ∀ x y, kv x = kv y → x = y) (hE : SetE kv es q) (hB : Born es c) (h : ItS kv es seen done) (he : e ∈ (leftOf es seen).toList) :
    ∃ k, k ∈ q ∧ k ∉ done ∧ e.key = kv k ∧ e ∈ es.toList ∧ ItS kv es (seen.push e.born) (done ++ [k]) := by
  unfold leftOf at he
  rw [Array.toList_filter, List.mem_filter] at he
  obtain ⟨h1, h2⟩ := he
  obtain ⟨k, hk, hkv⟩ := hE.ofKey h1
  have hnd : k ∉ done := fun hm => by
    have := (h.mem e h1).2 ⟨k, hm, hkv⟩
    rw [this] at h2
    simp at h2
  refine ⟨k, hk, hnd, hkv, h1, ⟨?_, fun x hx => ?_, fun y hy => ?_⟩⟩
  · rw [List.nodup_append]; exact ⟨h.nd, by simp, fun a ha b hb e => by simp at hb; subst hb; subst e; exact hnd ha⟩
  · rw [Array.contains_push, Bool.or_eq_true, h.mem x hx, beq_iff_eq]
    constructor
    · rintro (⟨y, hy, hyv⟩ | h3)
      · exact ⟨y, by simp [hy], hyv⟩
      · have : x = e := by
          have hn := hB.nd
          obtain ⟨i, hi1, hi2⟩ := List.getElem_of_mem hx
          obtain ⟨j, hj1, hj2⟩ := List.getElem_of_mem h1
          have hij : i = j := by
            rcases Nat.lt_trichotomy i j with g | g | g
            · exact ((List.pairwise_iff_getElem.1 hn i j (by simpa using hi1) (by simpa using hj1) g) (by simp only [List.getElem_map, hi2, hj2, h3])).elim
            · exact g
            · exact ((List.pairwise_iff_getElem.1 hn j i (by simpa using hj1) (by simpa using hi1) g) (by simp only [List.getElem_map, hi2, hj2, h3])).elim
          subst hij
          rw [← hi2, ← hj2]
        exact ⟨k, by simp, this ▸ hkv⟩
    · rintro ⟨y, hy, hyv⟩
      rcases List.mem_append.1 hy with hy | hy
      · exact .inl ⟨y, hy, hyv⟩
      · rw [List.mem_singleton] at hy
        subst hy
        exact .inr (congrArg MapEntry.born (hE.entry hi hx h1 (hyv.trans hkv.symm)))
  · rcases List.mem_append.1 hy with hy | hy
    · exact h.sub y hy
    · rw [List.mem_singleton] at hy
      subst hy
      exact ⟨e, h1, hkv⟩
theorem ItS.end {es : Array MapEntry} {q : List K} {seen : Array Nat} {done : List K} (hi : ∀ x y, kv x = kv y → x = y) (hE : SetE kv es q) (h : ItS kv es seen done) (h0 : (leftOf es seen).size = 0) : done.Perm q := by
  refine (List.perm_ext_iff_of_nodup h.nd hE.nd).2 fun k => ⟨fun hk => ?_, fun hk => ?_⟩
  · obtain ⟨e, he, hkv⟩ := h.sub k hk
    obtain ⟨k', hk', hkv'⟩ := hE.ofKey he
    exact hi _ _ (hkv.symm.trans hkv') ▸ hk'
  · have : kv k ∈ es.toList.map (·.key) := by rw [hE.keys]; exact List.mem_map_of_mem hk
    obtain ⟨e, he, hkv⟩ := List.mem_map.1 this
    have hs : seen.contains e.born = true := by
      cases hc : seen.contains e.born
      · exfalso
        have : e ∈ (leftOf es seen).toList := by unfold leftOf; rw [Array.toList_filter, List.mem_filter]; exact ⟨he, by simp only [hc]; rfl⟩
        have h1 := List.length_pos_of_mem this
        simp only [Array.length_toList] at h1
        omega
      · rfl
    obtain ⟨k', hk', hkv'⟩ := (h.mem e he).1 hs
    exact hi _ _ (hkv.symm.trans hkv') ▸ hk'
end
section
variable {P : Program} {N : Nat} {v0 : Vw} {H0 : Hp} {R : Exit → Act → World → Prop} {K : List Kt} {fr : Fr} {H F : Hp} {Γ : List Fct}
def RoundR {σ : Type} (v0 : Vw) (H0 : Hp) (Hj : σ → Hp) (ok : σ → Prop) (HL : Hp) : Exit → Act → World → Prop
  | .normal, _, w => ∃ s' v, ok s' ∧ v.w = w ∧ v.sat (Hj s' ++ HL) ∧ v0.to H0 v (Hj s' ++ HL)
  | _, _, _ => False
theorem ytri_roundR {σ ι : Type} {l D : Nat} {rec : Loop} {pm : Nat} {x : Value} {Hj : σ → Hp} {s : σ} {ok : σ → Prop} (frA : ι → Fr) (HA : ι → Hp)
  (hp : rec.params = #[pm]) (hst : rec.state = .ready) (hpe : rec.pending = none) (ht : Fr.sat N fr ⟨rec.tmps, []⟩) (hpm : Nat.blt pm N = true)
  (hassign : ∀ n v0 H0 HL, RunI (Fence.wide.inRound l) n P (Mid N v0 H0 frA (fun i => HA i ++ HL) (fun _ => Γ)) N [] v0 H0 rec.assign [] ((pm, x) :: fr) (Hj s ++ HL) Γ)
  (hbody : ∀ n v0 H0 HL i, RunI (Fence.wide.inRound l) n P (RoundR v0 H0 Hj ok HL) N [] v0 H0 rec.body [] (frA i) (HA i ++ HL) Γ) :
  YTri P l x (Hj s ++ HLp l D rec) Γ (fun _ : {s' : σ // ok s'} => .bool true) (fun s' => Hj s'.1 ++ HLp l D rec) (fun _ => []) := by
 intro v hs hΓ
 have hpl : ∀ (X : Hp) r, (X ++ HLp l D r).Perm ((l, .loop r) :: (X ++ [(D, .deferred (some []))])) := fun X r => by
  unfold HLp
  exact List.perm_middle
 have hl : v.w.heap[l]? = some (.loop rec) := ((hs.perm (hpl _ _)).own _ List.mem_cons_self).1
 refine ⟨rec.fn, _, rec.assign, rec.body, run_yield hl (by simp [hp]), fun n => roundIn_of_wpIn trivial ?_⟩
 have htm : (rec.params.zip #[x]).foldl (fun tmps (t, a) => tmps.setIfInBounds t a) rec.tmps = rec.tmps.setIfInBounds pm x := by simp [hp]
 rw [htm]
 have hsat : Fr.sat N ((pm, x) :: fr) ⟨rec.tmps.setIfInBounds pm x, []⟩ := ht.put hpm
 refine wpIn_mono (okD_ok.1 (hassign n v (Hj s ++ HLp l D rec) (HLp l D rec)) ⟨rec.tmps.setIfInBounds pm x, []⟩ v hsat hs (Vw.to.refl _ _) hΓ) ?_
 rintro e a1 w1 ⟨rfl, i, v1, rfl, k1, k2, k3, k4⟩
 have k2' := k2.perm (hpl _ _)
 have hl1 := (k2'.own _ List.mem_cons_self).1
 obtain ⟨m1, m2⟩ := sat_put (o' := .loop { rec with state := .busy }) k2'
 refine ⟨_, run_beginRound hl1 hst, ?_⟩
 have m3 := m1.perm (hpl (HA i) { rec with state := .busy }).symm
 have m4 : v.to (Hj s ++ HLp l D rec) ⟨v1.im, v1.w.putObj l (.loop { rec with state := .busy }), v1.sl⟩ (HA i ++ HLp l D { rec with state := .busy }) :=
  (k3.trans ((m2.permL (hpl _ _).symm).subR fun b hb => ((hpl (HA i) { rec with state := .busy }).map Prod.fst).mem_iff.1 hb))
 have k4' := holds_mono (m2.le k2') k4
 refine wpIn_mono (okD_ok.1 (hbody n v (Hj s ++ HLp l D rec) (HLp l D { rec with state := .busy }) i) a1 ⟨v1.im, _, v1.sl⟩ k1 m3 m4 k4') ?_
 intro e2 a2 w2 hq
 cases e2 with
 | normal =>
  obtain ⟨s', v2, hok, rfl, q1, q2⟩ := hq
  have q1' := q1.perm (hpl _ _)
  have hl2 := (q1'.own _ List.mem_cons_self).1
  obtain ⟨z1, z2⟩ := sat_put (o' := .loop rec) q1'
  have er : ({ rec with state := .ready, pending := none } : Loop) = rec := by cases rec; simp_all
  refine ⟨_, _, run_endRound none hl2, ⟨s', hok⟩, ⟨v2.im, v2.w.putObj l (.loop rec), v2.sl⟩, rfl, ?_, z1.perm (hpl _ _).symm, trivial, q2.trans ((z2.permL (hpl _ _).symm).subR fun b hb => ((hpl (Hj s') rec).map Prod.fst).mem_iff.1 hb)⟩
  simp [er]
 | ret => exact hq.elim
 | exit id => exact hq.elim
 | goto t => exact hq.elim
 | panic c => exact hq.elim
 | outgrown => exact hq.elim
theorem roundR_end {σ : Type} {Hj : σ → Hp} {HL G : Hp} {ok : σ → Prop} (s' : σ) (hr : ok s') (hH : H.Perm (Hj s' ++ HL ++ G)) : OkD N [] v0 H0 (RoundR v0 H0 Hj ok HL .normal) fr H Γ :=
  okD_weak (Γ' := []) hH (fun _ _ _ => trivial) fun a v h1 h2 h3 _ => ⟨s', v, hr, rfl, h2, h3⟩
/-- what the iterator does is said for whatever yield does (hit); one round is hround -/
theorem run_rangeR {σ α : Type} {g : Operand} {pm : Nat} {assign body : Code} {gf : FuncId} {caps : List Value} {Hj : σ → Hp} {Hc : Hp} {Γi : List Fct} {xv : α → Value} {good : σ → α → Prop} {nx : α → σ → σ → Prop} {Rc : σ → Prop}
    (s0 : σ) (hg : Fr.ev fr g = some (.func (.func gf) #[] caps.toArray)) (hH : H.Perm (Hc ++ Hj s0)) (hΓi : ∀ v, v.sat H → holds Γ v → holds Γi v)
    (hround : ∀ l D (rec : Loop), rec.params = #[pm] → rec.state = .ready → rec.pending = none → Fr.sat N fr ⟨rec.tmps, []⟩ → rec.assign = assign → rec.body = body → ∀ s x, good s x →
      YTri P l (xv x) (Hj s ++ HLp l D rec) [] (fun _ : {s' : σ // nx x s s'} => .bool true) (fun s' => Hj s'.1 ++ HLp l D rec) (fun _ => []))
    (hit : ∀ l (Gj : σ → Hp), (∀ s x, good s x → YTri P l (xv x) (Gj s) [] (fun _ : {s' : σ // nx x s s'} => .bool true) (fun s' => Gj s'.1) (fun _ => [])) →
      Tri P gf (.func (.yield l) #[] #[] :: caps).toArray (Hc ++ Gj s0) Γi (fun _ : {s' : σ // Rc s'} => .tuple #[]) (fun s' => Hc ++ Gj s'.1) (fun _ => []))
    (hnext : ∀ s', Rc s' → ∀ D l r, FinI Fence.wide 0 P R N (mark D) v0 H0 K fr (Hc ++ Hj s' ++ HLp l D r) Γ) :
    Run P R N v0 H0 (.rangeFunc g #[pm] assign body) K fr H Γ := by
  intro a v h1 h2 h3 h4
  refine wpIn_wide (n := 0) |>.1 (wpIn_mono (Q := postI Fence.wide 0 P R K) (wpIn_rangeFunc fun fn _ => ?_) fun e a w hq => postI_wide K e a w hq)
  obtain ⟨a1, a2⟩ := sat_new (w' := v.w.alloc (.deferred (some []))) (o := .deferred (some [])) h2 rfl rfl rfl rfl (Nat.le_refl _)
  obtain ⟨rec, hrec⟩ : ∃ rec : Loop, rec = { state := .ready, pending := none, fn, tmps := a.tmps, params := #[pm], assign, body, defers := v.w.heap.size } := ⟨_, rfl⟩
  obtain ⟨b1, b2⟩ := sat_new (w' := (v.w.alloc (.deferred (some []))).alloc (.loop rec)) (o := .loop rec) a1 rfl rfl rfl rfl (Nat.le_refl _)
  have hsz : (v.w.alloc (Obj.deferred (some []))).heap.size = v.w.heap.size + 1 := by simp
  have b1' : (⟨v.im, (v.w.alloc (.deferred (some []))).alloc (.loop rec), v.sl⟩ : Vw).sat ((v.w.heap.size + 1, .loop rec) :: (v.w.heap.size, .deferred (some [])) :: H) := hsz ▸ b1
  have b2' : v.to H ⟨v.im, (v.w.alloc (.deferred (some []))).alloc (.loop rec), v.sl⟩ ((v.w.heap.size + 1, .loop rec) :: (v.w.heap.size, .deferred (some [])) :: H) := a2.trans (hsz ▸ b2)
  have hperm : ((v.w.heap.size + 1, Obj.loop rec) :: (v.w.heap.size, .deferred (some [])) :: H).Perm (Hc ++ (Hj s0 ++ HLp (v.w.heap.size + 1) v.w.heap.size rec)) := by
    rw [← List.append_assoc]
    exact (List.perm_append_comm (l₁ := HLp (v.w.heap.size + 1) v.w.heap.size rec) (l₂ := H)).trans (hH.append_right _)
  have hT := hit (v.w.heap.size + 1) (fun s => Hj s ++ HLp (v.w.heap.size + 1) v.w.heap.size rec)
    (hround _ _ rec (by rw [hrec]) (by rw [hrec]) (by rw [hrec]) (by rw [hrec]; exact ⟨h1.size, rfl, h1.val⟩) (by rw [hrec]) (by rw [hrec]))
  have hΓ2 := holds_mono (b2'.le h2) (hΓi v h2 h4)
  have hΓ3 := holds_mono (b2'.le h2) h4
  have he := h1.ev hg
  refine ⟨v.w.heap.size + 1, mark v.w.heap.size, (v.w.alloc (.deferred (some []))).alloc (.loop rec), ⟨.fn (.func gf) caps.toArray, #[.func (.yield (v.w.heap.size + 1)) #[] #[]]⟩, (v.w.alloc (.deferred (some []))).alloc (.loop rec), gf, (.func (.yield (v.w.heap.size + 1)) #[] #[] :: caps).toArray, _, ?_, ?_, fun _ _ => trivial, ?_, fun h => (by cases h), callsIn_wide.2 ((hT.run ⟨v.im, _, v.sl⟩ (b1'.perm hperm) hΓ2).mono ?_)⟩
  · rw [hrec]; exact run_enterLoop_outer _ _ _ _ _
  · simp only [resolve, rangeCall, List.map_toArray, List.map_cons, List.map_nil, he, Deferred.ofValue]
    rfl
  · have := hT.callable (.func (.yield (v.w.heap.size + 1)) #[] #[] :: caps).toArray ((v.w.alloc (.deferred (some []))).alloc (.loop rec))
    simpa [invoke] using this
  · rintro e w' ⟨⟨s', hRc⟩, v', rfl, rfl, g1, g2, g3⟩
    have g3' := b2'.trans (g3.permL hperm.symm)
    have hΓ4 := holds_mono (g3'.le h2) h4
    have hsd : ∀ D', SatD N D' fr { a with defers := D' ++ a.defers } := fun D' => ⟨⟨h1.size, rfl, h1.val⟩, by show D' ++ a.defers = D'; rw [h1.defers]; simp⟩
    have hpl : ∀ (X Y : Hp) r, (Y ++ (X ++ HLp (v.w.heap.size + 1) v.w.heap.size r)).Perm ((v.w.heap.size + 1, .loop r) :: (Y ++ X ++ [(v.w.heap.size, .deferred (some []))])) := fun X Y r => by
      unfold HLp
      rw [← List.append_assoc]
      exact List.perm_middle
    have q := g1.perm (hpl (Hj s') Hc rec)
    have hl := (q.own _ List.mem_cons_self).1
    obtain ⟨z1, z2⟩ := sat_put (o' := .loop { rec with state := .exhausted }) q
    have zp : ((v.w.heap.size + 1, Obj.loop { rec with state := .exhausted }) :: (Hc ++ Hj s' ++ [(v.w.heap.size, .deferred (some []))])).Perm (Hc ++ Hj s' ++ HLp (v.w.heap.size + 1) v.w.heap.size { rec with state := .exhausted }) := by
      have := (hpl (Hj s') Hc { rec with state := .exhausted }).symm
      rw [← List.append_assoc] at this
      exact this
    refine ⟨rec.pending, _, run_endLoop hl (by rw [hrec]; simp), ?_⟩
    have hpn : rec.pending = none := by rw [hrec]
    split
    case h_2 => rename_i c hc; rw [hpn] at hc; cases hc
    exact hnext s' hRc _ _ _ _ ⟨v'.im, _, v'.sl⟩ (hsd _) (z1.perm zp) (h3.trans (g3'.trans ((z2.permL (hpl _ _ _).symm).subR fun b hb => (zp.map Prod.fst).mem_iff.2 hb))) (holds_mono (z2.le q) hΓ4)
end
section
variable {Fc : Fence} {n : Nat} {P : Program} {N : Nat} {D : List Deferred} {v0 : Vw} {H0 : Hp} {R : Exit → Act → World → Prop} {K : List Kt} {fr : Fr} {H : Hp} {Γ : List Fct}
variable {ops : Array Oper} {l : List Oper} {d : Nat} {ty : TypeId} {ps : String} {af : Array Edge}
theorem opsI_slit {t e : TypeId} {len sz : Nat} {parts : List (Nat × Operand)} {vs : List (Nat × Value)} {zv : Value} {cs : List Value} (hF : Opn Fc) (hu : ∀ w, (underlying t).run P w = .ok (.slice e) w) (hs : ∀ w, (sizeOf e).run P w = .ok sz w) (hz : ∀ w, (zeroValue e).run P w = .ok zv w)
    (hzl : zv.cells.toList.length = sz) (hp : Nat.blt 0 (len * sz) = true) (hle : Nat.ble (len * sz) 16777216 = true) (hx : Fr.evp fr parts = some vs) (hf : fillL (fun i => some (i * sz, sz)) (zrep zv.cells.toList len) vs = some cs) (hN : Nat.blt d N = true)
    (hk : ∀ b, OpsI Fc n P R N D v0 H0 ops l K ((d, .slice (some ⟨b, 0, none⟩) len len) :: fr) ((b, .cells cs.toArray e (0, 0)) :: H) Γ) : OpsI Fc n P R N D v0 H0 ops (⟨some d, .buildSlice t len parts.toArray, ty, ps, af, none⟩ :: l) K fr H Γ :=
  opsI_of_wp rfl fun a v h1 h2 h3 h4 => by
    refine ⟨fun f _ => hF.fn f, ?_⟩
    rw [semAt_eq rfl]
    have he : (execOp a.eval ⟨some d, .buildSlice t len parts.toArray, ty, ps, af, none⟩).run P v.w = .ok (.value (.slice (some ⟨v.w.heap.size, 0, none⟩) len len)) (v.w.alloc (.cells cs.toArray e (0, 0))) := by
      have hx' := h1.sat.evp hx
      have hf' := fillL_eq _ _ _ _ hf
      have hpos : 0 < len * sz := by simpa [Nat.blt_eq] using hp
      have hszp : 0 < sz := Nat.pos_of_mul_pos_left hpos
      have hle' : len * sz ≤ 16777216 := Nat.le_of_ble_eq_true hle
      have hr := range_zrep zv.cells.toList (by omega) len
      rw [hzl] at hr
      simp only [Array.toArray_toList] at hr
      rw [← hr] at hf'
      have hx2 : (parts.map fun (i, x) => (i, a.eval x)) = vs := hx'
      simp only [execOp, Instr.buildSlice, Sem.run_bind, hu, Result.andThen_ok, hs, List.map_toArray, hx2]
      rw [if_neg (by omega), if_neg (by omega)]
      simp only [Sem.run_bind, Sem.run_pure, hz, Result.andThen_ok, hf']
      rfl
    rw [he]
    obtain ⟨g1, g2⟩ := sat_new (w' := v.w.alloc (.cells cs.toArray e (0, 0))) (o := .cells cs.toArray e (0, 0)) h2 rfl rfl rfl rfl (Nat.le_refl _)
    exact hk v.w.heap.size _ ⟨v.im, _, v.sl⟩ (h1.put hN) g1 (h3.trans g2) (holds_mono (g2.le h2) h4)
theorem okD_perm {k : Act → World → Prop} {H' : Hp} (hH : H.Perm H') (h : OkD N D v0 H0 k fr H' Γ) : OkD N D v0 H0 k fr H Γ :=
  fun a v h1 h2 h3 h4 => h a v h1 (h2.perm hH) (h3.subR fun b hb => (hH.map Prod.fst).mem_iff.2 hb) h4
theorem opsI_storeRow {t e : TypeId} {x y : Operand} {b off sz m : Nat} {sv : Value} {xs : List Value} {Hr : Hp} (hF : Opn Fc) (i : Nat) {cur : Array Value} {T : TypeId} (hrow : SRow e sz sv m xs Hr) (hs : ∀ w, (sizeOf t).run P w = .ok 1 w)
    (hx : Fr.ev fr x = some (.pointer (some ⟨b, off, none⟩))) (hy : Fr.ev fr y = some sv) (hi : H[i]? = some (b, .cells cur T (0, 0))) (hf : Nat.ble (off + 1) cur.size = true)
    (hk : OpsI Fc n P R N D v0 H0 ops l K fr (H.set i (b, .cells (cur.toList.take off ++ [sv] ++ cur.toList.drop (off + 1)).toArray T (0, 0))) Γ) : OpsI Fc n P R N D v0 H0 ops (⟨none, .store t x y, ty, ps, af, none⟩ :: l) K fr H Γ :=
  opsI_store hF i hs hx hy hi (by rw [(srow_one hrow).1]; rfl) hf (by rw [(srow_one hrow).1]; simp [(srow_one hrow).2]) (by rw [(srow_one hrow).1]; exact hk)
theorem opsI_append {x y : Operand} {t e : TypeId} {sz by' m k c : Nat} {sv : Value} {xs news : List Value} {Hr F : Hp} {ad : Addr} (hF : Opn Fc) (he : Elt P t e sz by') (hrow : SRow e sz sv m xs Hr)
    (hx : Fr.ev fr x = some sv) (hy : Fr.ev fr y = some (.slice (some ad) k c)) (hH : H.Perm (Hr ++ F)) (hl : news.length = k * sz) (hnews : ∀ v, v.sat H → holds Γ v → ∀ j u, news[j]? = some u → v.w.cell? (ad.add j) = some u) (h1c : ∀ u ∈ news, u.oneCell' = true)
    (h63 : m + k ≤ maxLen) (hb : (m + k) * by' ≤ 140737488355328) (hN : Nat.blt d N = true)
    (hk : ∀ sv' Hr', SRow e sz sv' (m + k) (xs ++ news) Hr' → OpsI Fc n P R N D v0 H0 ops l K ((d, sv') :: fr) (Hr' ++ F) Γ) :
    OpsI Fc n P R N D v0 H0 ops (⟨some d, .call ⟨.builtin .append, #[x, y], #[t, t]⟩, ty, ps, af, none⟩ :: l) K fr H Γ :=
  opsI_of_wp rfl fun a v h1 h2 h3 h4 => by
    refine ⟨fun f _ => hF.fn f, ?_⟩
    rw [semAt_eq rfl]
    obtain ⟨i, z, hi, hz, es, eb, ez⟩ := he.info
    have g := h2.perm hH
    have hn := hnews v h2 h4
    have ho := hrow.owns g
    obtain ⟨v', w', hr, q1, q2, _⟩ := run_append_own (P := P) v.w 0 t ty e i z sz by' he.und hi hz es eb ez he.pos sv m xs ho ad k c news hl hn h1c h63 hb (Nat.zero_le _)
    obtain ⟨a1, a2⟩ := append_block v.w he.und hi hz es ho hl hn h1c h63 (by rw [eb]; exact hb) hr
    obtain ⟨Hr', k1, k2, k3⟩ := grown_sat hrow g q1 q2 a1 a2
    have e1 : a.eval x = sv := h1.sat.ev hx
    have e2 : a.eval y = .slice (some ad) k c := h1.sat.ev hy
    have hxx : (execOp a.eval ⟨some d, .call ⟨.builtin .append, #[x, y], #[t, t]⟩, ty, ps, af, none⟩).run P v.w = .ok (.value v') w' := by
      simp only [execOp, resolve, invoke, builtin, Sem.run_bind, Sem.run_pure, Result.andThen_ok, List.map_toArray, List.map_cons, List.map_nil, e1, e2, hr]
    rw [hxx]
    exact hk v' Hr' k1 _ ⟨v.im, w', v.sl⟩ (h1.put hN) k2 (h3.trans (k3.permL hH.symm)) (holds_mono ((k3.permL hH.symm).le h2) h4)
end
end Go.Sx
