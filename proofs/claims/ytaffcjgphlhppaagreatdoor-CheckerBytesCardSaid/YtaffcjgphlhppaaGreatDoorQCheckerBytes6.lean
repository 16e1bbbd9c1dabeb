/-
  Part of the proof of the law CheckerBytes over this seat: the small logic, the data, the contracts of functions (no condition).
-/
import Derived.Test.YtaffcjgphlhppaaGreatDoorQCheckerBytes5
import Derived.Test.YtaffcjgphlhppaaGreatDoorQCheckerBytes3
import Derived.Test.YtaffcjgphlhppaaGreatDoorQCheckerBytes2
import Derived.Test.YtaffcjgphlhppaaGreatDoorQCheckerBytes1
import Derived.Scope
import Derived.Maps.RangeRun
import Derived.Recover
set_option linter.unusedVariables false
set_option linter.unusedSimpArgs false
set_option linter.unusedSectionVars false
namespace Go.Vs
open Go Go.Sx
-- valid pieces, kind by kind
section
variable {a b c r s t : Str} {lo hi f : Int}
end
-- atoms
-- roles
structure RInv (s : Str) (a i : Nat) (dn : List Str) : Prop where
  le : a ≤ i
  il : i ≤ s.length
  no : ixS 46 ((s.drop a).take (i - a)) = none
  sp : bs_ 46 s = dn ++ bs_ 46 (s.drop a)
  al : dn.all bG_ = true
structure REnd (s : Str) (i : Nat) (dn : List Str) : Prop where
  il : i = s.length + 1
  sp : bs_ 46 s = dn
  al : dn.all bG_ = true
def segS (s : Str) (a i : Nat) : Str := (s.drop a).take (i - a)
theorem RInv.len {s : Str} {a i : Nat} {dn : List Str} (h : RInv s a i dn) : dn.length ≤ s.length + 1 := by
  have h1 := df_ 46 s
  have h2 := gG_ 46 s
  rw [h.sp, List.length_append] at h1
  omega
theorem REnd.len {s : Str} {i : Nat} {dn : List Str} (h : REnd s i dn) : dn.length ≤ s.length + 1 := by
  have h1 := df_ 46 s
  have h2 := gG_ 46 s
  rw [h.sp] at h1
  omega
theorem RInv.fin {s : Str} {a i : Nat} {dn : List Str} (h : RInv s a i dn) (hi : ¬ i < s.length) : bs_ 46 s = dn ++ [segS s a i] := by
  have hle := h.le
  have hil := h.il
  have e : (s.drop a).take (i - a) = s.drop a := List.take_of_length_le (by rw [List.length_drop]; omega)
  have hn := h.no
  rw [e] at hn
  rw [h.sp, eF_ hn, segS, e]
theorem REnd.role {s : Str} {i : Nat} {dn : List Str} (h : REnd s i dn) : dd_ s = decide ((dn.length : Int) ≤ 4) := by
  unfold dd_
  rw [h.sp]
  have : dn.any (fun r => !bG_ r) = false := by
    rw [List.any_eq_false]
    intro x hx
    have := List.all_eq_true.1 h.al x hx
    simp [this]
  rw [this]
  simp
  omega
-- sorted insertion
end Go.Vs
namespace Go.Vs
open Go Go.Sx
def aL_ (a b : Str) : Fc := ⟨1, a, b, [], 0, 0⟩
def bI_ (a r b : Str) : Fc := ⟨2, a, b, r, 0, 0⟩
def am_ (a r : Str) (lo hi : Int) : Fc := ⟨3, a, [], r, lo, hi⟩
inductive One (p : List Pc) (A : List Str) (S : Fc → Prop) (M : Fc → Fc → Prop) : Fc → Prop
  | r1 {a : Str} (h : a ∈ A) : One p A S M (aL_ a a)
  | r2 {a : Str} (h : a ∈ A) : One p A S M (aL_ a [42])
  | r10 {a : Str} {x : Pc} (hx : x ∈ p) (hk : x.kind = 7) (h : a ∈ A) : One p A S M (bI_ a x.r a)
  | r3 {a : Str} {x : Pc} (hx : x ∈ p) (hk : x.kind = 1) (h : S (aL_ a x.a)) : One p A S M (aL_ a x.c)
  | r4 {a : Str} {x : Pc} (hx : x ∈ p) (hk : x.kind = 2) (h : S (aL_ a x.a)) (h' : S (aL_ a x.b)) : One p A S M (aL_ a x.c)
  | r5 {a : Str} {x : Pc} (hx : x ∈ p) (hk : x.kind = 3) (h : S (aL_ a x.a)) : One p A S M (bI_ a x.r x.c)
  | r6 {a b : Str} {x : Pc} (hx : x ∈ p) (hk : x.kind = 5) (h : S (bI_ a x.r b)) : One p A S M (bI_ a x.t b)
  | r7 {a b c : Str} {x : Pc} (hx : x ∈ p) (hk : x.kind = 6) (h : S (bI_ a x.r b)) (h' : S (bI_ b x.s c)) : One p A S M (bI_ a x.t c)
  | r8 {a b : Str} {x : Pc} (hx : x ∈ p) (hk : x.kind = 4) (h : S (bI_ a x.r b)) (h' : S (aL_ b x.a)) : One p A S M (aL_ a x.c)
  | r9 {a r b : Str} (h : S (bI_ a r b)) (h' : S (aL_ b [33])) : One p A S M (aL_ a [33])
  | r11 {a : Str} {x : Pc} (hx : x ∈ p) (hk : x.kind = 8) (h : S (aL_ a x.a)) : One p A S M (am_ a x.r x.lo x.hi)
  | r12 {a r : Str} {lo hi lo' hi' : Int} (h : S (am_ a r lo hi)) (h' : S (am_ a r lo' hi')) (hm : M (am_ a r lo hi) (am_ a r lo' hi')) (hl : max lo lo' ≤ min hi hi') : One p A S M (am_ a r (max lo lo') (min hi hi'))
  | r13 {a r : Str} {lo hi lo' hi' : Int} (h : S (am_ a r lo hi)) (h' : S (am_ a r lo' hi')) (hm : M (am_ a r lo hi) (am_ a r lo' hi')) (hl : min hi hi' < max lo lo') : One p A S M (aL_ a [33])
  | r14 {a : Str} {lo hi : Int} {x : Pc} (hx : x ∈ p) (hk : x.kind = 9) (h : S (am_ a x.r lo hi)) (h1 : x.lo ≤ lo) (h2 : hi ≤ x.hi) : One p A S M (aL_ a x.c)
abbrev pX_ (p : List Pc) (A : List Str) (S : Fc → Prop) : Fc → Prop := One p A S (fun _ _ => True)
theorem One.mono {p p' : List Pc} {A A' : List Str} {S S' : Fc → Prop} {M M' : Fc → Fc → Prop} (hp : ∀ x ∈ p, ∃ y ∈ p', ∃ n, { y with frm := n } = x) (hA : ∀ a ∈ A, a ∈ A') (hS : ∀ y, S y → S' y) (hM : ∀ x y, M x y → M' x y) {y : Fc} (h : One p A S M y) : One p' A' S' M' y := by
  cases h with
  | r1 h => exact .r1 (hA _ h)
  | r2 h => exact .r2 (hA _ h)
  | r10 hx hk h => obtain ⟨z, hz, n, rfl⟩ := hp _ hx; exact One.r10 (x := z) hz hk (hA _ h)
  | r3 hx hk h => obtain ⟨z, hz, n, rfl⟩ := hp _ hx; exact One.r3 (x := z) hz hk (hS _ h)
  | r4 hx hk h h' => obtain ⟨z, hz, n, rfl⟩ := hp _ hx; exact One.r4 (x := z) hz hk (hS _ h) (hS _ h')
  | r5 hx hk h => obtain ⟨z, hz, n, rfl⟩ := hp _ hx; exact One.r5 (x := z) hz hk (hS _ h)
  | r6 hx hk h => obtain ⟨z, hz, n, rfl⟩ := hp _ hx; exact One.r6 (x := z) hz hk (hS _ h)
  | r7 hx hk h h' => obtain ⟨z, hz, n, rfl⟩ := hp _ hx; exact One.r7 (x := z) hz hk (hS _ h) (hS _ h')
  | r8 hx hk h h' => obtain ⟨z, hz, n, rfl⟩ := hp _ hx; exact One.r8 (x := z) hz hk (hS _ h) (hS _ h')
  | r9 h h' => exact .r9 (hS _ h) (hS _ h')
  | r11 hx hk h => obtain ⟨z, hz, n, rfl⟩ := hp _ hx; exact One.r11 (x := z) hz hk (hS _ h)
  | r12 h h' hm hl => exact .r12 (hS _ h) (hS _ h') (hM _ _ hm) hl
  | r13 h h' hm hl => exact .r13 (hS _ h) (hS _ h') (hM _ _ hm) hl
  | r14 hx hk h h1 h2 => obtain ⟨z, hz, n, rfl⟩ := hp _ hx; exact One.r14 (x := z) hz hk (hS _ h) h1 h2
def Der (p : List Pc) (A : List Str) (y : Fc) : Prop := ∀ T : Fc → Prop, (∀ y, pX_ p A T y → T y) → T y
theorem Der.step {p : List Pc} {A : List Str} {y : Fc} (h : pX_ p A (Der p A) y) : Der p A y :=
  fun T hT => hT y (h.mono (fun x hx => ⟨x, hx, x.frm, rfl⟩) (fun _ h => h) (fun z hz => hz T hT) (fun _ _ h => h))
theorem Der.mono {p p' : List Pc} {A A' : List Str} (hp : ∀ x ∈ p, ∃ y ∈ p', ∃ n, { y with frm := n } = x) (hA : ∀ a ∈ A, a ∈ A') {y : Fc} (h : Der p A y) : Der p' A' y :=
  h _ fun _ hz => Der.step (hz.mono hp hA (fun _ h => h) (fun _ _ h => h))
theorem Der.least {p : List Pc} {A : List Str} {T : Fc → Prop} (hT : ∀ y, pX_ p A T y → T y) {y : Fc} (h : Der p A y) : T y := h T hT
structure Ky where
  kind : Int
  role : Str
  atom : Str
deriving DecidableEq
abbrev ln_ := Str × Str
def lat {K D : Type} [DecidableEq K] (l : List (K × D)) (k : K) : List D := (l.filter fun e => decide (e.1 = k)).map (·.2)
theorem gv_ {K D : Type} [DecidableEq K] {l : List (K × D)} {k : K} {d : D} : d ∈ lat l k ↔ (k, d) ∈ l := by
  unfold lat
  simp only [List.mem_map, List.mem_filter, decide_eq_true_eq]
  exact ⟨fun ⟨⟨a, b⟩, ⟨h1, h2⟩, h3⟩ => by subst h2; subst h3; exact h1, fun h => ⟨(k, d), ⟨h, rfl⟩, rfl⟩⟩
theorem lD_ {K D : Type} [DecidableEq K] (l m : List (K × D)) (k : K) : lat (l ++ m) k = lat l k ++ lat m k := by simp [lat]
def putL (x : Pc) : List (Ky × Pc) :=
  if x.kind = 1 ∨ x.kind = 3 ∨ x.kind = 8 then [(⟨x.kind, [], x.a⟩, x)]
  else if x.kind = 2 then if x.b ≠ x.a then [(⟨x.kind, [], x.a⟩, x), (⟨x.kind, [], x.b⟩, x)] else [(⟨x.kind, [], x.a⟩, x)]
  else if x.kind = 4 then [(⟨x.kind, [], x.a⟩, x), (⟨x.kind, x.r, x.a⟩, x)]
  else if x.kind = 5 ∨ x.kind = 9 then [(⟨x.kind, x.r, []⟩, x)]
  else if x.kind = 6 then [(⟨x.kind, x.r, []⟩, x), (⟨x.kind, [], x.s⟩, x)]
  else []
def Pc.zf (x : Pc) : Pc := { x with frm := 0 }
def pmOf (ps : List Pc) : List (Ky × Pc) := ps.flatMap putL
def ml_ (ps : List Pc) : List Str := (ps.filter fun x => decide (x.kind = 7)).map (·.r)
structure Ix where
  above : List (Str × Str)
  under : List (Str × Str)
  frm : List (ln_ × Str)
  into : List (ln_ × Str)
  ranges : List (ln_ × Fc)
  firms : List (ln_ × Fc)
def Ix.nil : Ix := ⟨[], [], [], [], [], []⟩
def Ix.add (x : Ix) (firm : Bool) (f : Fc) : Ix :=
  if f.kind = 1 then { x with above := x.above ++ [(f.a, f.b)] }
  else if f.kind = 2 then { x with under := x.under ++ [(f.b, f.a)], frm := x.frm ++ [((f.a, f.r), f.b)], into := x.into ++ [((f.b, f.r), f.a)] }
  else if f.kind = 3 then { x with ranges := x.ranges ++ [((f.a, f.r), f)], firms := if firm then x.firms ++ [((f.a, f.r), f)] else x.firms }
  else x
section
variable (pm : List (Ky × Pc)) (x : Ix) (f : Fc)
def qe_ (y : Fc) : Fc := am_ f.a f.r (max f.lo y.lo) (min f.hi y.hi)
end
section
variable (stp : Fc → List Fc → List Fc) (kof : List Fc → List Fc)
end
structure Grows (stp : Fc → List Fc → List Fc) (kof : List Fc → List Fc) : Prop where
  up : ∀ y s z, z ∈ kof s → z ∈ kof (stp y s)
section
variable {ps : List Pc} {A : List Str} {x : Ix} {S Fm : Fc → Prop} {f : Fc} {kn : List Fc}
end
section
variable (stp : Fc → List Fc → List Fc) (kof : List Fc → List Fc) (pm : List (Ky × Pc)) (x : Ix) (f : Fc)
end
structure Cmpl (ps : List Pc) (S Fm kn good : Fc → Prop) (f : Fc) : Prop where
  c3 : ∀ z a, z ∈ ps → z.kind = 1 → f = aL_ a z.a → good (aL_ a z.c)
  c4 : ∀ z a, z ∈ ps → z.kind = 2 → f = aL_ a z.a → kn (aL_ a z.b) → good (aL_ a z.c)
  c4' : ∀ z a, z ∈ ps → z.kind = 2 → f = aL_ a z.b → kn (aL_ a z.a) → good (aL_ a z.c)
  c5 : ∀ z a, z ∈ ps → z.kind = 3 → f = aL_ a z.a → good (bI_ a z.r z.c)
  c6 : ∀ z a b, z ∈ ps → z.kind = 5 → f = bI_ a z.r b → good (bI_ a z.t b)
  c7 : ∀ z a b c, z ∈ ps → z.kind = 6 → f = bI_ a z.r b → S (bI_ b z.s c) → good (bI_ a z.t c)
  c7' : ∀ z a b c, z ∈ ps → z.kind = 6 → f = bI_ b z.s c → S (bI_ a z.r b) → good (bI_ a z.t c)
  c8 : ∀ z a b, z ∈ ps → z.kind = 4 → f = bI_ a z.r b → S (aL_ b z.a) → good (aL_ a z.c)
  c8' : ∀ z a b, z ∈ ps → z.kind = 4 → f = aL_ b z.a → S (bI_ a z.r b) → good (aL_ a z.c)
  c9 : ∀ a r b, f = bI_ a r b → kn (aL_ b [33]) → good (aL_ a [33])
  c9' : ∀ a r b, f = aL_ b [33] → S (bI_ a r b) → good (aL_ a [33])
  c11 : ∀ z a, z ∈ ps → z.kind = 8 → f = aL_ a z.a → good (am_ a z.r z.lo z.hi)
  c12 : ∀ y, f.kind = 3 → S y → y.kind = 3 → y.a = f.a → y.r = f.r → (Fm f ∨ Fm y) → max f.lo y.lo ≤ min f.hi y.hi → good (qe_ f y)
  c13 : ∀ y, f.kind = 3 → S y → y.kind = 3 → y.a = f.a → y.r = f.r → (Fm f ∨ Fm y) → min f.hi y.hi < max f.lo y.lo → good (aL_ f.a [33])
  c14 : ∀ z a lo hi, z ∈ ps → z.kind = 9 → f = am_ a z.r lo hi → z.lo ≤ lo → hi ≤ z.hi → good (aL_ a z.c)
section
variable {stp : Fc → List Fc → List Fc} {kof : List Fc → List Fc} {ps : List Pc} {A : List Str} {x : Ix} {S Fm : Fc → Prop} {f : Fc}
end
end Go.Vs
namespace Go.Vs
open Go Go.Sx
section
variable {ps : List Pc} {A : List Str} {m : Nat} {x : Ix} {S Fm : Fc → Prop} {f : Fc}
end
inductive Fmd (fm : List Fc) : Fc → Prop
  | base {y : Fc} (h : y ∈ fm) : Fmd fm y
  | meet {y z : Fc} (hy : Fmd fm y) (hz : Fmd fm z) (ha : z.a = y.a) (hr : z.r = y.r) (hl : max y.lo z.lo ≤ min y.hi z.hi) : Fmd fm (qe_ y z)
theorem Fmd.mono {fm fm' : List Fc} (h : ∀ y ∈ fm, y ∈ fm') {y : Fc} (hy : Fmd fm y) : Fmd fm' y := by
  induction hy with
  | base h1 => exact .base (h _ h1)
  | meet _ _ ha hr hl ih1 ih2 => exact .meet ih1 ih2 ha hr hl
section
variable {ps : List Pc} {A : List Str} {m n : Nat} {q fm : List Fc} {x : Ix} {f : Fc}
end
section
variable {ps : List Pc} {A : List Str} {m n : Nat} {q fm : List Fc} {x : Ix} {f : Fc}
end
def Fc.lt (x y : Fc) : Prop := x.kind < y.kind ∨ x.kind = y.kind ∧ (x.a < y.a ∨ x.a = y.a ∧ (x.b < y.b ∨ x.b = y.b ∧ (x.r < y.r ∨ x.r = y.r ∧ (x.lo < y.lo ∨ x.lo = y.lo ∧ x.hi < y.hi))))
instance (x y : Fc) : Decidable (Fc.lt x y) := by unfold Fc.lt; exact inferInstance
theorem oY_ (x : Str) : ¬ x < x := List.lt_irrefl x
theorem Fc.lt_irr (x : Fc) : ¬ x.lt x := by
  unfold Fc.lt
  simp [oY_]
theorem eY_ {α : Type} {lt : α → α → Prop} (ht : ∀ {x y z}, lt x y → lt y z → lt x z) {x y z : α} {P Q R : Prop} (hr : x = y → y = z → P → Q → R) (h1 : lt x y ∨ x = y ∧ P) (h2 : lt y z ∨ y = z ∧ Q) : lt x z ∨ x = z ∧ R := by
  rcases h1 with h1 | ⟨rfl, h1⟩
  · rcases h2 with h2 | ⟨rfl, h2⟩
    · exact .inl (ht h1 h2)
    · exact .inl h1
  · rcases h2 with h2 | ⟨rfl, h2⟩
    · exact .inl h2
    · exact .inr ⟨rfl, hr rfl rfl h1 h2⟩
theorem Fc.lt_trans {x y z : Fc} (h1 : x.lt y) (h2 : y.lt z) : x.lt z :=
  eY_ (lt := fun a b : Int => a < b) Int.lt_trans (fun _ _ => eY_ (lt := fun a b : Str => a < b) List.lt_trans (fun _ _ => eY_ (lt := fun a b : Str => a < b) List.lt_trans (fun _ _ => eY_ (lt := fun a b : Str => a < b) List.lt_trans (fun _ _ => eY_ (lt := fun a b : Int => a < b) Int.lt_trans fun _ _ => Int.lt_trans)))) h1 h2
theorem hL_ {α : Type} {lt : α → α → Prop} (hi : ∀ x, ¬ lt x x) (ht : ∀ {x y z}, lt x y → lt y z → lt x z) : ∀ {l m : List α}, l.Pairwise lt → m.Pairwise lt → (∀ x, x ∈ l ↔ x ∈ m) → l = m
  | [], [], _, _, _ => rfl
  | [], y :: m, _, _, h => by have := (h y).2 (by simp); simp at this
  | x :: l, [], _, _, h => by have := (h x).1 (by simp); simp at this
  | x :: l, y :: m, h1, h2, h => by
    rw [List.pairwise_cons] at h1 h2
    have e : x = y := by
      rcases List.mem_cons.1 ((h x).1 (by simp)) with e | hx
      · exact e
      · rcases List.mem_cons.1 ((h y).2 (by simp)) with e | hy
        · exact e.symm
        · exact absurd (ht (h1.1 y hy) (h2.1 x hx)) (hi x)
    subst e
    congr 1
    refine hL_ hi ht h1.2 h2.2 fun z => ⟨fun hz => ?_, fun hz => ?_⟩
    · rcases List.mem_cons.1 ((h z).1 (by simp [hz])) with rfl | q
      · exact absurd (h1.1 z hz) (hi z)
      · exact q
    · rcases List.mem_cons.1 ((h z).2 (by simp [hz])) with rfl | q
      · exact absurd (h2.1 z hz) (hi z)
      · exact q
abbrev Srt (l : List Fc) : Prop := l.Pairwise Fc.lt
theorem Srt.ext {l m : List Fc} (h1 : Srt l) (h2 : Srt m) (h : ∀ x, x ∈ l ↔ x ∈ m) : l = m := hL_ Fc.lt_irr Fc.lt_trans h1 h2 h
theorem Srt.nodup {l : List Fc} (h : Srt l) : l.Nodup := by
  unfold List.Nodup
  refine List.Pairwise.imp ?_ h
  intro a b hab e
  exact Fc.lt_irr b (e ▸ hab)
theorem kF_ {α : Type} [DecidableEq α] : ∀ {l m : List α}, l.Nodup → (∀ x ∈ l, x ∈ m) → l.length ≤ m.length
  | [], m, _, _ => by simp
  | x :: l, m, h, hs => by
    rw [List.nodup_cons] at h
    have := kF_ (l := l) (m := m.erase x) h.2 fun y hy => by
      have hne : y ≠ x := fun e => h.1 (e ▸ hy)
      exact (List.mem_erase_of_ne hne).2 (hs y (by simp [hy]))
    have hx := hs x (by simp)
    rw [List.length_erase_of_mem hx] at this
    have : 0 < m.length := List.length_pos_of_mem hx
    simp only [List.length_cons]
    omega
end Go.Vs
namespace Go.Vs
open Go Go.Sx
section
variable {ps : List Pc} {A : List Str} {c : List Fc} {x : Ix} {f : Fc}
theorem Cmpl.up {S Fm kn good good' : Fc → Prop} (h : Cmpl ps S Fm kn good f) (hg : ∀ y, good y → good' y) : Cmpl ps S Fm kn good' f :=
  ⟨fun z a h1 h2 h3 => hg _ (h.c3 z a h1 h2 h3), fun z a h1 h2 h3 h4 => hg _ (h.c4 z a h1 h2 h3 h4), fun z a h1 h2 h3 h4 => hg _ (h.c4' z a h1 h2 h3 h4), fun z a h1 h2 h3 => hg _ (h.c5 z a h1 h2 h3), fun z a b h1 h2 h3 => hg _ (h.c6 z a b h1 h2 h3),
   fun z a b c h1 h2 h3 h4 => hg _ (h.c7 z a b c h1 h2 h3 h4), fun z a b c h1 h2 h3 h4 => hg _ (h.c7' z a b c h1 h2 h3 h4), fun z a b h1 h2 h3 h4 => hg _ (h.c8 z a b h1 h2 h3 h4), fun z a b h1 h2 h3 h4 => hg _ (h.c8' z a b h1 h2 h3 h4), fun a r b h1 h2 => hg _ (h.c9 a r b h1 h2), fun a r b h1 h2 => hg _ (h.c9' a r b h1 h2),
   fun z a h1 h2 h3 => hg _ (h.c11 z a h1 h2 h3), fun y h1 h2 h3 h4 h5 h6 h7 => hg _ (h.c12 y h1 h2 h3 h4 h5 h6 h7), fun y h1 h2 h3 h4 h5 h6 h7 => hg _ (h.c13 y h1 h2 h3 h4 h5 h6 h7), fun z a lo hi h1 h2 h3 h4 h5 => hg _ (h.c14 z a lo hi h1 h2 h3 h4 h5)⟩
end
section
variable {p : List Pc} {A : List Str} {l : List Fc} {f : Fc}
end
end Go.Vs
namespace Go.Vs
open Go Go.Sx
structure Stp where
  rule : Int
  fact : Fc
  piece : Int
  ad : Option Addr
  cap : Nat
  frm : List Int
def Stp.cells (s : Stp) : List Value := [.int .i64 s.rule, .int .i64 s.fact.kind, str s.fact.a, str s.fact.b, str s.fact.r, .int .i64 s.fact.lo, .int .i64 s.fact.hi, .int .i64 s.piece, .slice s.ad s.frm.length s.cap]
theorem Stp.cells_len (s : Stp) : s.cells.length = 9 := rfl
def Stp.val (s : Stp) : Value := .agg s.cells.toArray
theorem Stp.fact_cells (s : Stp) (j : Nat) (y : Value) (h : (Fc.cells s.fact)[j]? = some y) : s.cells[1 + j]? = some y := by
  match j, h with
  | 0, h => exact h
  | 1, h => exact h
  | 2, h => exact h
  | 3, h => exact h
  | 4, h => exact h
  | 5, h => exact h
  | n + 6, h => simp [Fc.cells] at h
def cP_ (l : List Stp) : Fct where
  p v := ∀ s ∈ l, bV_ v s.ad (s.frm.flatMap dg_)
  mono v v' h hp s hs := (aY_ s.ad (s.frm.flatMap dg_)).mono v v' h (hp s hs)
theorem cH_ {l : List Stp} {s : Stp} {v : Vw} (h : (cP_ l).p v) (hs : bV_ v s.ad (s.frm.flatMap dg_)) : (cP_ (l ++ [s])).p v := fun x hx => by
  rcases List.mem_append.1 hx with hx | hx
  · exact h x hx
  · rw [List.mem_singleton] at hx; subst hx; exact hs
theorem eo_ {v : Vw} : (cP_ []).p v := fun x hx => by simp at hx
def fcs (l : List Stp) : List Fc := l.map (·.fact)
theorem gh_ (l m : List Stp) : fcs (l ++ m) = fcs l ++ fcs m := by simp [fcs]
theorem ec_ (l : List Stp) : (fcs l).length = l.length := by simp [fcs]
def At (l : List Stp) (m : Nat) (f : Fc) : Prop := ∃ s, l[m]? = some s ∧ s.fact = f
theorem At.lt {l : List Stp} {m : Nat} {f : Fc} (h : At l m f) : m < l.length := by
  obtain ⟨s, h, _⟩ := h; exact (List.getElem?_eq_some_iff.1 h).1
theorem At.mem {l : List Stp} {m : Nat} {f : Fc} (h : At l m f) : f ∈ fcs l := by
  obtain ⟨s, h, rfl⟩ := h; exact List.mem_map_of_mem (List.mem_of_getElem? h)
theorem At.pre {l l' : List Stp} {m : Nat} {f : Fc} (h : At l m f) (hp : l <+: l') : At l' m f := by
  obtain ⟨t, rfl⟩ := hp; obtain ⟨s, h, e⟩ := h
  exact ⟨s, by rw [List.getElem?_append_left (List.getElem?_eq_some_iff.1 h).1]; exact h, e⟩
theorem At.take {l : List Stp} {m n : Nat} {f : Fc} (h : At l m f) (hn : m < n) : At (l.take n) m f := by
  obtain ⟨s, h, e⟩ := h; exact ⟨s, by rw [List.getElem?_take_of_lt hn]; exact h, e⟩
inductive Cor (p : List Pc) (A : List Str) (l : List Stp) : Int → Fc → Int → List Int → Prop
  | r1 {a : Str} (h : a ∈ A) : Cor p A l 1 (aL_ a a) (-1) []
  | r2 {a : Str} (h : a ∈ A) : Cor p A l 2 (aL_ a [42]) (-1) []
  | r10 {a : Str} {x : Pc} {i : Nat} (hx : p[i]? = some x) (hk : x.kind = 7) (h : a ∈ A) : Cor p A l 10 (bI_ a x.r a) i []
  | r3 {a : Str} {x : Pc} {i m : Nat} (hx : p[i]? = some x) (hk : x.kind = 1) (h : At l m (aL_ a x.a)) : Cor p A l 3 (aL_ a x.c) i [(m : Int)]
  | r4 {a : Str} {x : Pc} {i m k : Nat} (hx : p[i]? = some x) (hk : x.kind = 2) (h : At l m (aL_ a x.a)) (h' : At l k (aL_ a x.b)) : Cor p A l 4 (aL_ a x.c) i [(m : Int), (k : Int)]
  | r5 {a : Str} {x : Pc} {i m : Nat} (hx : p[i]? = some x) (hk : x.kind = 3) (h : At l m (aL_ a x.a)) : Cor p A l 5 (bI_ a x.r x.c) i [(m : Int)]
  | r6 {a b : Str} {x : Pc} {i m : Nat} (hx : p[i]? = some x) (hk : x.kind = 5) (h : At l m (bI_ a x.r b)) : Cor p A l 6 (bI_ a x.t b) i [(m : Int)]
  | r7 {a b c : Str} {x : Pc} {i m k : Nat} (hx : p[i]? = some x) (hk : x.kind = 6) (h : At l m (bI_ a x.r b)) (h' : At l k (bI_ b x.s c)) : Cor p A l 7 (bI_ a x.t c) i [(m : Int), (k : Int)]
  | r8 {a b : Str} {x : Pc} {i m k : Nat} (hx : p[i]? = some x) (hk : x.kind = 4) (h : At l m (bI_ a x.r b)) (h' : At l k (aL_ b x.a)) : Cor p A l 8 (aL_ a x.c) i [(m : Int), (k : Int)]
  | r9 {a r b : Str} {m k : Nat} (h : At l m (bI_ a r b)) (h' : At l k (aL_ b [33])) : Cor p A l 9 (aL_ a [33]) (-1) [(m : Int), (k : Int)]
  | r11 {a : Str} {x : Pc} {i m : Nat} (hx : p[i]? = some x) (hk : x.kind = 8) (h : At l m (aL_ a x.a)) : Cor p A l 11 (am_ a x.r x.lo x.hi) i [(m : Int)]
  | r12 {a r : Str} {lo hi lo' hi' : Int} {m k : Nat} (h : At l m (am_ a r lo hi)) (h' : At l k (am_ a r lo' hi')) (hl : max lo lo' ≤ min hi hi') : Cor p A l 12 (am_ a r (max lo lo') (min hi hi')) (-1) [(m : Int), (k : Int)]
  | r13 {a r : Str} {lo hi lo' hi' : Int} {m k : Nat} (h : At l m (am_ a r lo hi)) (h' : At l k (am_ a r lo' hi')) (hl : min hi hi' < max lo lo') : Cor p A l 13 (aL_ a [33]) (-1) [(m : Int), (k : Int)]
  | r14 {a : Str} {lo hi : Int} {x : Pc} {i m : Nat} (hx : p[i]? = some x) (hk : x.kind = 9) (h : At l m (am_ a x.r lo hi)) (h1 : x.lo ≤ lo) (h2 : hi ≤ x.hi) : Cor p A l 14 (aL_ a x.c) i [(m : Int)]
  | r15 {f : Fc} {m : Nat} (h : At l m (aL_ f.a [33])) : Cor p A l 15 f (-1) [(m : Int)]
  | r16 {a r : Str} {lo hi lo' hi' : Int} {m : Nat} (h : At l m (am_ a r lo hi)) (h1 : lo' ≤ lo) (h2 : hi ≤ hi') : Cor p A l 16 (am_ a r lo' hi') (-1) [(m : Int)]
theorem Cor.map {p p' : List Pc} {A A' : List Str} {l l' : List Stp} {g : Int → Int} (hg : ∀ (m : Nat) f, At l m f → ∃ k : Nat, g (m : Int) = k ∧ At l' k f) (hA : ∀ a ∈ A, a ∈ A') (hp : ∀ (i : Nat) x, p[i]? = some x → p'[i]? = some x)
    {r : Int} {f : Fc} {i : Int} {fr : List Int} (h : Cor p A l r f i fr) : Cor p' A' l' r f i (fr.map g) := by
  cases h with
  | r1 h => exact .r1 (hA _ h)
  | r2 h => exact .r2 (hA _ h)
  | r10 hx hk h => exact .r10 (hp _ _ hx) hk (hA _ h)
  | r3 hx hk h => obtain ⟨k, e, h⟩ := hg _ _ h; rw [List.map_cons, e]; exact .r3 (hp _ _ hx) hk h
  | r4 hx hk h h' => obtain ⟨k, e, h⟩ := hg _ _ h; obtain ⟨k', e', h'⟩ := hg _ _ h'; rw [List.map_cons, List.map_cons, e, e']; exact .r4 (hp _ _ hx) hk h h'
  | r5 hx hk h => obtain ⟨k, e, h⟩ := hg _ _ h; rw [List.map_cons, e]; exact .r5 (hp _ _ hx) hk h
  | r6 hx hk h => obtain ⟨k, e, h⟩ := hg _ _ h; rw [List.map_cons, e]; exact .r6 (hp _ _ hx) hk h
  | r7 hx hk h h' => obtain ⟨k, e, h⟩ := hg _ _ h; obtain ⟨k', e', h'⟩ := hg _ _ h'; rw [List.map_cons, List.map_cons, e, e']; exact .r7 (hp _ _ hx) hk h h'
  | r8 hx hk h h' => obtain ⟨k, e, h⟩ := hg _ _ h; obtain ⟨k', e', h'⟩ := hg _ _ h'; rw [List.map_cons, List.map_cons, e, e']; exact .r8 (hp _ _ hx) hk h h'
  | r9 h h' => obtain ⟨k, e, h⟩ := hg _ _ h; obtain ⟨k', e', h'⟩ := hg _ _ h'; rw [List.map_cons, List.map_cons, e, e']; exact .r9 h h'
  | r11 hx hk h => obtain ⟨k, e, h⟩ := hg _ _ h; rw [List.map_cons, e]; exact .r11 (hp _ _ hx) hk h
  | r12 h h' hl => obtain ⟨k, e, h⟩ := hg _ _ h; obtain ⟨k', e', h'⟩ := hg _ _ h'; rw [List.map_cons, List.map_cons, e, e']; exact .r12 h h' hl
  | r13 h h' hl => obtain ⟨k, e, h⟩ := hg _ _ h; obtain ⟨k', e', h'⟩ := hg _ _ h'; rw [List.map_cons, List.map_cons, e, e']; exact .r13 h h' hl
  | r14 hx hk h h1 h2 => obtain ⟨k, e, h⟩ := hg _ _ h; rw [List.map_cons, e]; exact .r14 (hp _ _ hx) hk h h1 h2
  | r15 h => obtain ⟨k, e, h⟩ := hg _ _ h; rw [List.map_cons, e]; exact .r15 h
  | r16 h h1 h2 => obtain ⟨k, e, h⟩ := hg _ _ h; rw [List.map_cons, e]; exact .r16 h h1 h2
theorem Cor.pre {p : List Pc} {A : List Str} {l l' : List Stp} (hl : l <+: l') {r : Int} {f : Fc} {i : Int} {fr : List Int} (h : Cor p A l r f i fr) : Cor p A l' r f i fr := by
  have := h.map (l' := l') (g := id) (fun m f hm => ⟨m, rfl, hm.pre hl⟩) (fun _ h => h) (fun _ _ h => h)
  rwa [List.map_id] at this
theorem Cor.one {p : List Pc} {A : List Str} {l : List Stp} {r : Int} {f : Fc} {i : Int} {fr : List Int} (h : Cor p A l r f i fr) (hr : r ≤ 14) : pX_ p A (· ∈ fcs l) f := by
  cases h with
  | r1 h => exact .r1 h
  | r2 h => exact .r2 h
  | r10 hx hk h => exact .r10 (List.mem_of_getElem? hx) hk h
  | r3 hx hk h => exact .r3 (List.mem_of_getElem? hx) hk h.mem
  | r4 hx hk h h' => exact .r4 (List.mem_of_getElem? hx) hk h.mem h'.mem
  | r5 hx hk h => exact .r5 (List.mem_of_getElem? hx) hk h.mem
  | r6 hx hk h => exact .r6 (List.mem_of_getElem? hx) hk h.mem
  | r7 hx hk h h' => exact .r7 (List.mem_of_getElem? hx) hk h.mem h'.mem
  | r8 hx hk h h' => exact .r8 (List.mem_of_getElem? hx) hk h.mem h'.mem
  | r9 h h' => exact .r9 h.mem h'.mem
  | r11 hx hk h => exact .r11 (List.mem_of_getElem? hx) hk h.mem
  | r12 h h' hl => exact .r12 h.mem h'.mem trivial hl
  | r13 h h' hl => exact .r13 h.mem h'.mem trivial hl
  | r14 hx hk h h1 h2 => exact .r14 (List.mem_of_getElem? hx) hk h.mem h1 h2
  | r15 h => omega
  | r16 h h1 h2 => omega
structure Eng (p : List Pc) (A : List Str) (l : List Stp) : Prop where
  nd : (fcs l).Nodup
  cor : ∀ (n : Nat) s, l[n]? = some s → Cor p A (l.take n) s.rule s.fact s.piece s.frm ∧ s.rule ≤ 14
theorem Eng.nil (p : List Pc) (A : List Str) : Eng p A [] := ⟨by simp [fcs], fun n s h => by simp at h⟩
def addL (l : List Stp) (s : Stp) : List Stp := if s.fact ∈ fcs l then l else l ++ [s]
theorem Eng.add {p : List Pc} {A : List Str} {l : List Stp} (h : Eng p A l) {s : Stp} (hs : Cor p A l s.rule s.fact s.piece s.frm) (hr : s.rule ≤ 14) : Eng p A (addL l s) := by
  unfold addL; split
  · exact h
  · rename_i hn
    refine ⟨?_, fun n t ht => ?_⟩
    · rw [gh_, List.nodup_append]
      exact ⟨h.nd, by simp [fcs], fun a ha b hb e => by simp [fcs] at hb; subst hb; subst e; exact hn ha⟩
    · by_cases hl : n < l.length
      · rw [List.getElem?_append_left hl] at ht
        rw [List.take_append_of_le_length (by omega)]
        exact h.cor n t ht
      · have e : n = l.length := by have := (List.getElem?_eq_some_iff.1 ht).1; simp at this; omega
        subst e
        rw [List.getElem?_append_right (by omega)] at ht
        simp at ht
        subst ht
        rw [List.take_left]
        exact ⟨hs, hr⟩
theorem Eng.der {p : List Pc} {A : List Str} {l : List Stp} (h : Eng p A l) : ∀ f ∈ fcs l, Der p A f := by
  have key : ∀ k, ∀ f ∈ fcs (l.take k), Der p A f := by
    intro k
    induction k with
    | zero => intro f hf; simp [fcs] at hf
    | succ k ih =>
      intro f hf
      rw [List.take_add_one, gh_, List.mem_append] at hf
      rcases hf with hf | hf
      · exact ih f hf
      · cases hk : l[k]? with
        | none => rw [hk] at hf; simp [fcs] at hf
        | some s =>
          rw [hk] at hf
          simp [fcs] at hf
          subst hf
          obtain ⟨c, hr⟩ := h.cor k s hk
          exact Der.step ((c.one hr).mono (fun x hx => ⟨x, hx, x.frm, rfl⟩) (fun _ h => h) (fun z hz => ih z hz) (fun _ _ h => h))
  intro f hf
  exact key l.length f (by rw [List.take_length]; exact hf)
theorem Eng.len {p : List Pc} {A : List Str} {l : List Stp} {L : List Fc} (h : Eng p A l) (hL : ∀ y, Der p A y → y ∈ L) : l.length ≤ L.length := by
  rw [← ec_]; exact kF_ h.nd fun x hx => hL x (h.der x hx)
theorem Eng.at {p : List Pc} {A : List Str} {l : List Stp} (h : Eng p A l) {m k : Nat} {f : Fc} (hm : At l m f) (hk : At l k f) : m = k := by
  obtain ⟨s, hs, e⟩ := hm; obtain ⟨t, ht, e'⟩ := hk
  have h1 : (fcs l)[m]? = some f := by unfold fcs; rw [List.getElem?_map, hs, Option.map_some, e]
  have h2 : (fcs l)[k]? = some f := by unfold fcs; rw [List.getElem?_map, ht, Option.map_some, e']
  exact (List.getElem?_inj (List.getElem?_eq_some_iff.1 h1).choose h.nd).1 (h1.trans h2.symm)
def kys (x : Pc) : List Ky := (putL x ++ if x.kind = 7 then [(Ky.mk 7 [] [], x)] else []).map (·.1)
structure Fnd (p : List Pc) (fm : List (Ky × Int)) : Prop where
  snd : ∀ k m, (k, m) ∈ fm → ∃ (i : Nat) (x : Pc), m = i ∧ p[i]? = some x ∧ k ∈ kys x
  all : ∀ z ∈ p, ∃ (i : Nat) (x : Pc), p[i]? = some x ∧ x.zf = z.zf ∧ ∀ k ∈ kys z, (k, (i : Int)) ∈ fm
  len : fm.length ≤ 2 * p.length
def Und (p : List Pc) (fm : List (Ky × Int)) (k : Ky) (Q : Pc → Prop) : Prop := ∀ m ∈ lat fm k, ∀ x, p[m.toNat]? = some x → Q x
theorem Und.all {p : List Pc} {fm : List (Ky × Int)} (h : Fnd p fm) {k : Ky} {Q : Pc → Prop} (hu : Und p fm k Q) {z : Pc} (hz : z ∈ p) (hk : k ∈ kys z) : ∃ x, x.zf = z.zf ∧ Q x := by
  obtain ⟨i, x, h1, h2, h3⟩ := h.all z hz
  exact ⟨x, h2, hu i (gv_.2 (h3 k hk)) x (by simpa using h1)⟩
theorem Fnd.get {p : List Pc} {fm : List (Ky × Int)} (h : Fnd p fm) {k : Ky} {m : Int} (hm : m ∈ lat fm k) : ∃ x, p[m.toNat]? = some x ∧ 0 ≤ m ∧ m.toNat < p.length ∧ k ∈ kys x := by
  obtain ⟨i, x, rfl, h1, h2⟩ := h.snd k m (gv_.1 hm)
  exact ⟨x, by simpa using h1, by omega, by have := (List.getElem?_eq_some_iff.1 h1).1; simpa using this, h2⟩
structure Jx where
  above : List (Str × Int)
  under : List (Str × Int)
  frm : List (ln_ × Int)
  into : List (ln_ × Int)
  ranges : List (ln_ × Int)
  firms : List (ln_ × Int)
def Jx.nil : Jx := ⟨[], [], [], [], [], []⟩
def Jx.add (x : Jx) (s : Stp) (n : Int) : Jx :=
  if s.fact.kind = 1 then { x with above := x.above ++ [(s.fact.a, n)] }
  else if s.fact.kind = 2 then { x with under := x.under ++ [(s.fact.b, n)], frm := x.frm ++ [((s.fact.a, s.fact.r), n)], into := x.into ++ [((s.fact.b, s.fact.r), n)] }
  else if s.fact.kind = 3 then { x with ranges := x.ranges ++ [((s.fact.a, s.fact.r), n)], firms := if s.rule = 11 then x.firms ++ [((s.fact.a, s.fact.r), n)] else x.firms }
  else x
def Lgs {K : Type} (x : List (K × Int)) (l : List Stp) (key : Stp → K) (Q : Stp → Prop) : Prop := ∀ k m, (k, m) ∈ x ↔ ∃ (i : Nat) (s : Stp), m = i ∧ l[i]? = some s ∧ Q s ∧ key s = k
structure Jx.len (x : Jx) (n : Nat) : Prop where
  above : x.above.length ≤ n
  under : x.under.length ≤ n
  frm : x.frm.length ≤ n
  into : x.into.length ≤ n
  ranges : x.ranges.length ≤ n
  firms : x.firms.length ≤ n
theorem Lgs.nil {K : Type} (key : Stp → K) (Q : Stp → Prop) : Lgs [] [] key Q := fun k m => by simp
theorem Lgs.skip {K : Type} {x : List (K × Int)} {l : List Stp} {key : Stp → K} {Q : Stp → Prop} (h : Lgs x l key Q) {s : Stp} (hs : ¬ Q s) : Lgs x (l ++ [s]) key Q := fun k m => by
  rw [h k m]
  constructor
  · rintro ⟨i, t, rfl, h1, h2, h3⟩
    exact ⟨i, t, rfl, by rw [List.getElem?_append_left (List.getElem?_eq_some_iff.1 h1).1]; exact h1, h2, h3⟩
  · rintro ⟨i, t, rfl, h1, h2, h3⟩
    by_cases hi : i < l.length
    · rw [List.getElem?_append_left hi] at h1; exact ⟨i, t, rfl, h1, h2, h3⟩
    · have e : i = l.length := by have := (List.getElem?_eq_some_iff.1 h1).1; simp at this; omega
      subst e; simp at h1; subst h1; exact absurd h2 hs
theorem Lgs.get {K : Type} [DecidableEq K] {x : List (K × Int)} {l : List Stp} {key : Stp → K} {Q : Stp → Prop} (h : Lgs x l key Q) {k : K} {m : Int} (hm : m ∈ lat x k) : ∃ s, l[m.toNat]? = some s ∧ 0 ≤ m ∧ m.toNat < l.length ∧ Q s ∧ key s = k := by
  obtain ⟨i, s, rfl, h1, h2, h3⟩ := (h k m).1 (gv_.1 hm)
  exact ⟨s, by simpa using h1, by omega, by have := (List.getElem?_eq_some_iff.1 h1).1; simpa using this, h2, h3⟩
end Go.Vs
namespace Go.Sx
open Go Go.Vs
theorem kk_ {P : Program} {f : FuncId} {args : Array Value} {H : Hp} {Γ Γ0 : List Fct} {ι : Type} {ret : ι → Value} {H' : ι → Hp} (B : Hp) (hT : Tri P f args H Γ ret H' (fun _ => []))
    (hΓ : ∀ v : Vw, (∀ p ∈ B, v.im p.1 ∧ v.w.heap[p.1]? = some p.2) → aD_ Γ0 v → aD_ Γ v) : Tri P f args (B ++ H) Γ0 ret (fun x => B ++ H' x) (fun _ => []) := by
  refine ⟨hT.callable, fun v hs hv => ?_⟩
  have hnd := hs.nodup
  rw [List.map_append, List.nodup_append] at hnd
  have hlt : ∀ p ∈ B, p.1 < v.w.heap.size := fun p hp => (Array.getElem?_eq_some_iff.1 (hs.own p (List.mem_append_left _ hp)).1).1
  have h1 : (⟨fun b => v.im b ∨ b ∈ B.map Prod.fst, v.w, v.sl⟩ : Vw).sat H := by
    refine ⟨fun p hp => ⟨(hs.own p (List.mem_append_right _ hp)).1, fun hi => ?_⟩, hnd.2.1, fun b hb => ?_⟩
    · rcases hi with hi | hi
      · exact (hs.own p (List.mem_append_right _ hp)).2 hi
      · exact hnd.2.2 _ hi _ (List.mem_map_of_mem hp) rfl
    · rcases hb with hb | hb
      · exact hs.lt b hb
      · obtain ⟨p, hp, rfl⟩ := List.mem_map.1 hb
        exact hlt p hp
  have hle : v.le ⟨fun b => v.im b ∨ b ∈ B.map Prod.fst, v.w, v.sl⟩ := ⟨fun b h => .inl h, fun _ _ => rfl, rfl⟩
  have h2 := hΓ ⟨fun b => v.im b ∨ b ∈ B.map Prod.fst, v.w, v.sl⟩ (fun p hp => ⟨.inr (List.mem_map_of_mem hp), (hs.own p (List.mem_append_left _ hp)).1⟩) (bD_ hle hv)
  refine (hT.run _ h1 h2).mono ?_
  rintro e w' ⟨x, v', rfl, rfl, g1, _, g3⟩
  have hB : ∀ b, b ∈ B.map Prod.fst → v'.im b := fun b hb => g3.imUp b (.inr hb)
  refine ⟨x, ⟨fun b => v'.im b ∧ b ∉ B.map Prod.fst, v'.w, v'.sl⟩, rfl, rfl, ⟨fun p hp => ?_, ?_, fun b hb => g1.lt b hb.1⟩, trivial, ?_⟩
  · rcases List.mem_append.1 hp with hp | hp
    · refine ⟨?_, fun h => h.2 (List.mem_map_of_mem hp)⟩
      have := (g3.le h1).block p.1 (.inr (List.mem_map_of_mem hp))
      exact this.trans (hs.own p (List.mem_append_left _ hp)).1
    · exact ⟨(g1.own p hp).1, fun h => (g1.own p hp).2 h.1⟩
  · rw [List.map_append, List.nodup_append]
    refine ⟨hnd.1, g1.nodup, fun a ha b hb e => ?_⟩
    subst e
    obtain ⟨p, hp, rfl⟩ := List.mem_map.1 hb
    exact (g1.own p hp).2 (hB _ ha)
  · refine ⟨g3.os, g3.tape, g3.output, g3.size, fun b hb hn => g3.block b hb (fun hm => hn ?_), fun b hb => ⟨g3.imUp b (.inl hb), fun hm => ?_⟩, fun b hb => ?_, fun b hb => ?_, g3.sl, g3.dr⟩
    · rw [List.map_append]; exact List.mem_append_right _ hm
    · obtain ⟨p, hp, rfl⟩ := List.mem_map.1 hm
      exact (hs.own p (List.mem_append_left _ hp)).2 hb
    · rcases g3.imNew b hb.1 with (h | h) | h | h
      · exact .inl h
      · exact absurd h hb.2
      · exact .inr (.inl (by rw [List.map_append]; exact List.mem_append_right _ h))
      · exact .inr (.inr h)
    · rw [List.map_append] at hb ⊢
      rcases List.mem_append.1 hb with h | h
      · exact .inl (List.mem_append_left _ h)
      · exact (g3.hNew b h).imp (List.mem_append_right _) id
structure KeyT (P : Program) (kt : TypeId) {K : Type} [DecidableEq K] (kv : K → Value) : Prop where
  ok : ∀ k, mC_ P kt (kv k)
  nf : ∀ (k : K) (es : List MapEntry) (ks : List K), es.map (·.key) = ks.map kv → k ∉ ks → eD_ P kt (kv k) es none
  sf : ∀ (k : K) (es : List MapEntry) (ks : List K) (i : Nat) (e : MapEntry), es.map (·.key) = ks.map kv → ks.Nodup → ks[i]? = some k → es[i]? = some e → eD_ P kt (kv k) es (some (i, e.val))
  same : ∀ k, Instr.sameBits 10000 (kv k) (kv k) = true
section
variable {P : Program}
theorem kb_ (a b : List UInt8) : ((⟨a.toArray⟩ : ByteArray) == ⟨b.toArray⟩) = decide (a = b) := by
  show (a.toArray == b.toArray) = _
  rw [Bool.eq_iff_iff]
  simp
theorem om_ {kt : TypeId} (hu : P.underlying kt = some .string) : KeyT P kt str where
  ok := fun k e w => by
    have key : ∀ m, (Instr.checkKey e (m + 1) kt (str k)).run P w = .ok () w := fun m => by simp [Instr.checkKey, run_underlying hu, str]
    exact key 9999
  nf := fun k es ks h hk => ji_ hu (by
    have : ∀ (ks : List Str) (es : List MapEntry) (i : Nat), es.map (·.key) = ks.map str → k ∉ ks → Instr.findNow .string (str k) es i = some none := by
      intro ks
      induction ks with
      | nil => intro es i h _; have : es = [] := by simpa using h
               subst this; rfl
      | cons q ks ih =>
        intro es i h hk
        cases es with
        | nil => simp at h
        | cons e es =>
          simp only [List.map_cons, List.cons.injEq] at h
          simp only [List.mem_cons, not_or] at hk
          have hs : Instr.sameNow .string (str k) e.key = some false := by
            rw [h.1]
            show some ((⟨k.toArray⟩ : ByteArray) == ⟨q.toArray⟩) = some false
            rw [kb_, decide_eq_false hk.1]
          simp only [Instr.findNow, hs]
          exact ih es (i + 1) h.2 hk.2
    exact this ks es 0 h hk)
  sf := fun k es ks i e h hn hi he => ji_ hu (by
    have : ∀ (ks : List Str) (es : List MapEntry) (j i : Nat), es.map (·.key) = ks.map str → ks.Nodup → ks[i]? = some k → es[i]? = some e → Instr.findNow .string (str k) es j = some (some (j + i, e.val)) := by
      intro ks
      induction ks with
      | nil => intro es j i _ _ h; simp at h
      | cons q ks ih =>
        intro es j i h hn hi he
        cases es with
        | nil => simp at h
        | cons x es =>
          simp only [List.map_cons, List.cons.injEq] at h
          rw [List.nodup_cons] at hn
          cases i with
          | zero =>
            simp only [List.getElem?_cons_zero, Option.some.injEq] at hi he
            subst hi; subst he
            have hs : Instr.sameNow .string (str q) x.key = some true := by
              rw [h.1]
              show some ((⟨q.toArray⟩ : ByteArray) == ⟨q.toArray⟩) = some true
              rw [kb_, decide_eq_true rfl]
            simp only [Instr.findNow, hs, Nat.add_zero]
          | succ i =>
            simp only [List.getElem?_cons_succ] at hi he
            have hne : k ≠ q := fun e => hn.1 (e ▸ List.mem_of_getElem? hi)
            have hs : Instr.sameNow .string (str k) x.key = some false := by
              rw [h.1]
              show some ((⟨k.toArray⟩ : ByteArray) == ⟨q.toArray⟩) = some false
              rw [kb_, decide_eq_false hne]
            simp only [Instr.findNow, hs]
            rw [ih es (j + 1) i h.2 hn.2 hi he, show j + 1 + i = j + (i + 1) by omega]
    have := this ks es 0 i h hn hi he
    rwa [Nat.zero_add] at this)
  same := fun k => by
    have key : ∀ m, Instr.sameBits m (str k) (str k) = true := fun m => by
      cases m <;> (show ((⟨k.toArray⟩ : ByteArray) == ⟨k.toArray⟩) = true; rw [kb_, decide_eq_true rfl])
    exact key 10000
end
structure Born (es : Array MapEntry) (c : Nat) : Prop where
  lt : ∀ x ∈ es.toList, x.born < c
  nd : (es.toList.map (·.born)).Nodup
theorem Born.nil (c : Nat) : Born #[] c := ⟨by simp, by simp⟩
theorem Born.push {es : Array MapEntry} {c : Nat} (h : Born es c) (key val : Value) : Born (es.push ⟨key, val, c⟩) (c + 1) := by
  refine ⟨fun x hx => ?_, ?_⟩
  · rw [Array.toList_push, List.mem_append] at hx
    rcases hx with hx | hx
    · exact Nat.lt_succ_of_lt (h.lt x hx)
    · rw [List.mem_singleton] at hx; rw [hx]; exact Nat.lt_succ_self _
  · rw [Array.toList_push, List.map_append, List.nodup_append]
    refine ⟨h.nd, by simp, fun a ha b hb e => ?_⟩
    obtain ⟨x, hx, rfl⟩ := List.mem_map.1 ha
    simp at hb
    have := h.lt x hx
    omega
theorem Born.modify {es : Array MapEntry} {c : Nat} (h : Born es c) (i : Nat) (f : MapEntry → MapEntry) (hf : ∀ e, (f e).born = e.born) : Born (es.modify i f) c := by
  have hb : (es.modify i f).toList.map (·.born) = es.toList.map (·.born) := by
    apply List.ext_getElem?
    intro j
    simp only [List.getElem?_map, Array.getElem?_toList, Array.getElem?_modify]
    split
    · cases es[j]? <;> simp [hf]
    · rfl
  refine ⟨fun x hx => ?_, by rw [hb]; exact h.nd⟩
  have : x.born ∈ (es.modify i f).toList.map (·.born) := List.mem_map_of_mem hx
  rw [hb] at this
  obtain ⟨y, hy, e⟩ := List.mem_map.1 this
  rw [← e]; exact h.lt y hy
theorem Born.find {es : Array MapEntry} {c i : Nat} {x : MapEntry} (h : Born es c) (hx : es[i]? = some x) : es.findIdx? (fun e => (e.born : Int) == (x.born : Int)) = some i := by
  rw [Array.findIdx?_eq_some_iff_getElem]
  obtain ⟨hi, rfl⟩ := Array.getElem?_eq_some_iff.1 hx
  refine ⟨hi, by simp, fun j hj => ?_⟩
  simp only [beq_eq_false_iff_ne, ne_eq, Bool.not_eq_true]
  intro e
  have hji : j < es.size := Nat.lt_trans hj hi
  have := h.nd
  rw [List.nodup_iff_pairwise_ne, List.pairwise_iff_getElem] at this
  have := this j i (by simpa using hji) (by simpa using hi) hj
  simp at this
  exact this (by exact_mod_cast e)
section
variable {K D : Type} [DecidableEq K] (kv : K → Value) (cells : D → List Value) (e : TypeId) (sz : Nat) (l : List (K × D))
def ff_ : List K → List MapEntry → Hp → Prop
  | [], [], H => H = []
  | k :: ks, x :: es, H => ∃ Hk Hr, H = Hk ++ Hr ∧ x.key = kv k ∧ bi_ e sz x.val (lat l k).length ((lat l k).flatMap cells) Hk ∧ ff_ ks es Hr
  | _, _, _ => False
def iC_ (mb : Nat) (H : Hp) : Prop := ∃ ks es c Hr, H = (mb, .map es c) :: Hr ∧ ks.Nodup ∧ (∀ x ∈ l, x.1 ∈ ks) ∧ ff_ kv cells e sz l ks es.toList Hr ∧ Born es c
end
section
variable {K D : Type} [DecidableEq K] {kv : K → Value} {cells : D → List Value} {e : TypeId} {sz : Nat} {l : List (K × D)}
theorem ff_.keys : ∀ {ks : List K} {es : List MapEntry} {H : Hp}, ff_ kv cells e sz l ks es H → es.map (·.key) = ks.map kv
  | [], [], _, _ => rfl
  | k :: ks, x :: es, _, h => by
    obtain ⟨Hk, Hr, _, h1, _, h2⟩ := h
    simp [h1, h2.keys]
  | [], _ :: _, _, h => h.elim
  | _ :: _, [], _, h => h.elim
theorem ff_.congr {l' : List (K × D)} : ∀ {ks : List K} {es : List MapEntry} {H : Hp}, (∀ k ∈ ks, lat l' k = lat l k) → ff_ kv cells e sz l ks es H → ff_ kv cells e sz l' ks es H
  | [], [], _, _, h => h
  | k :: ks, x :: es, _, hl, h => by
    obtain ⟨Hk, Hr, h0, h1, h2, h3⟩ := h
    exact ⟨Hk, Hr, h0, h1, by rw [hl k (by simp)]; exact h2, h3.congr fun q hq => hl q (by simp [hq])⟩
  | [], _ :: _, _, _, h => h.elim
  | _ :: _, [], _, _, h => h.elim
theorem ff_.get : ∀ {ks : List K} {es : List MapEntry} {H : Hp} {i : Nat} {k : K}, ff_ kv cells e sz l ks es H → ks.Nodup → ks[i]? = some k → ∃ x Hk Hr, es[i]? = some x ∧ H.Perm (Hk ++ Hr) ∧ x.key = kv k ∧ bi_ e sz x.val (lat l k).length ((lat l k).flatMap cells) Hk ∧
      ∀ (l' : List (K × D)) (y : MapEntry) (Hk' : Hp), y.key = kv k → (∀ q, q ≠ k → lat l' q = lat l q) → bi_ e sz y.val (lat l' k).length ((lat l' k).flatMap cells) Hk' → ∃ H', ff_ kv cells e sz l' ks (es.set i y) H' ∧ H'.Perm (Hk' ++ Hr)
  | [], _, _, _, _, _, _, h => by simp at h
  | _ :: _, [], _, _, _, h, _, _ => h.elim
  | q :: ks, x :: es, H, 0, k, h, hn, hi => by
    simp only [List.getElem?_cons_zero, Option.some.injEq] at hi
    subst hi
    rw [List.nodup_cons] at hn
    obtain ⟨Hk, Hr, h0, h1, h2, h3⟩ := h
    exact ⟨x, Hk, Hr, rfl, h0 ▸ .refl _, h1, h2, fun l' y Hk' g1 g2 g3 => ⟨Hk' ++ Hr, ⟨Hk', Hr, rfl, g1, g3, h3.congr fun z hz => g2 z (fun e => hn.1 (e ▸ hz))⟩, .refl _⟩⟩
  | q :: ks, x :: es, H, i + 1, k, h, hn, hi => by
    simp only [List.getElem?_cons_succ] at hi
    rw [List.nodup_cons] at hn
    obtain ⟨Hq, Ho, h0, h1, h2, h3⟩ := h
    obtain ⟨y, Hk, Hr, i1, i2, i3, i4, i5⟩ := h3.get hn.2 hi
    have hne : q ≠ k := fun e => hn.1 (e ▸ List.mem_of_getElem? hi)
    refine ⟨y, Hk, Hq ++ Hr, i1, ?_, i3, i4, fun l' z Hk' g1 g2 g3 => ?_⟩
    · rw [h0]
      refine (List.Perm.append_left Hq i2).trans ?_
      rw [← List.append_assoc, ← List.append_assoc]
      exact List.perm_append_comm.append_right _
    · obtain ⟨H', j1, j2⟩ := i5 l' z Hk' g1 g2 g3
      refine ⟨Hq ++ H', ⟨Hq, H', rfl, h1, by rw [g2 q hne]; exact h2, j1⟩, (List.Perm.append_left Hq j2).trans ?_⟩
      rw [← List.append_assoc, ← List.append_assoc]
      exact List.perm_append_comm.append_right _
theorem ff_.push : ∀ {ks : List K} {es : List MapEntry} {H : Hp} {k : K} {x : MapEntry} {Hk : Hp}, ff_ kv cells e sz l ks es H → x.key = kv k → bi_ e sz x.val (lat l k).length ((lat l k).flatMap cells) Hk → ff_ kv cells e sz l (ks ++ [k]) (es ++ [x]) (H ++ Hk)
  | [], [], _, k, x, Hk, h, h1, h2 => by subst h; exact ⟨Hk, [], by simp, h1, h2, rfl⟩
  | q :: ks, y :: es, _, k, x, Hk, h, h1, h2 => by
    obtain ⟨Hq, Hr, rfl, g1, g2, g3⟩ := h
    exact ⟨Hq, Hr ++ Hk, by simp, g1, g2, g3.push h1 h2⟩
  | [], _ :: _, _, _, _, _, h, _, _ => h.elim
  | _ :: _, [], _, _, _, _, h, _, _ => h.elim
theorem fR_ {k q : K} {d : D} (h : q ≠ k) : lat (l ++ [(k, d)]) q = lat l q := by
  rw [lD_]; simp [lat, Ne.symm h]
theorem iC_.open {P : Program} {kt : TypeId} (hK : KeyT P kt kv) {mb : Nat} {H : Hp} (h : iC_ kv cells e sz l mb H) (k : K) :
    ∃ es c sv Hk Hr, H.Perm ((mb, .map es c) :: (Hk ++ Hr)) ∧ bi_ e sz sv (lat l k).length ((lat l k).flatMap cells) Hk ∧
      ((eD_ P kt (kv k) es.toList none ∧ sv = .slice none 0 0 ∧ ∀ d sv' Hk', bi_ e sz sv' (lat (l ++ [(k, d)]) k).length ((lat (l ++ [(k, d)]) k).flatMap cells) Hk' → ∃ H', iC_ kv cells e sz (l ++ [(k, d)]) mb H' ∧ H'.Perm ((mb, .map (es.push ⟨kv k, sv', c⟩) (c + 1)) :: (Hk' ++ Hr))) ∨
       (∃ i x, eD_ P kt (kv k) es.toList (some (i, sv)) ∧ es[i]? = some x ∧ x.key = kv k ∧ x.val = sv ∧ ∀ d sv' Hk', bi_ e sz sv' (lat (l ++ [(k, d)]) k).length ((lat (l ++ [(k, d)]) k).flatMap cells) Hk' → ∃ H', iC_ kv cells e sz (l ++ [(k, d)]) mb H' ∧ H'.Perm ((mb, .map (es.modify i fun y => { y with key := kv k, val := sv' }) c) :: (Hk' ++ Hr)))) := by
  obtain ⟨ks, es, c, Ho, rfl, hn, hl, hm, hbn⟩ := h
  by_cases hk : k ∈ ks
  · obtain ⟨i, hi⟩ := List.getElem?_of_mem hk
    obtain ⟨x, Hk, Hr, g1, g2, g3, g4, g5⟩ := hm.get hn hi
    have hx : es[i]? = some x := by rw [← Array.getElem?_toList]; exact g1
    refine ⟨es, c, x.val, Hk, Hr, .cons _ g2, g4, .inr ⟨i, x, hK.sf k es.toList ks i x hm.keys hn hi g1, hx, g3, rfl, fun d sv' Hk' hs => ?_⟩⟩
    obtain ⟨H', j1, j2⟩ := g5 (l ++ [(k, d)]) { x with key := kv k, val := sv' } Hk' rfl (fun q hq => fR_ hq) hs
    refine ⟨(mb, .map (es.modify i fun y => { y with key := kv k, val := sv' }) c) :: H', ⟨ks, _, c, H', rfl, hn, fun y hy => ?_, ?_, hbn.modify i _ fun _ => rfl⟩, .cons _ j2⟩
    · rcases List.mem_append.1 hy with hy | hy
      · exact hl y hy
      · simp at hy; rw [hy]; exact hk
    · have e1 : (es.modify i fun y => { y with key := kv k, val := sv' }).toList = es.toList.set i { x with key := kv k, val := sv' } := by
        apply List.ext_getElem?
        intro j
        rw [Array.getElem?_toList, Array.getElem?_modify, List.getElem?_set, Array.getElem?_toList]
        by_cases hij : i = j
        · subst hij
          have hlt : i < es.toList.length := (List.getElem?_eq_some_iff.1 g1).1
          simp only [if_true, hx, Option.map_some, if_pos hlt]
        · simp [hij]
      rw [e1]; exact j1
  · have hlat : lat l k = [] := by
      apply List.eq_nil_iff_forall_not_mem.2
      intro d hd
      exact hk (hl _ (gv_.1 hd))
    refine ⟨es, c, .slice none 0 0, [], Ho, .refl _, by rw [hlat]; exact bi_.nil _ _, .inl ⟨hK.nf k es.toList ks hm.keys hk, rfl, fun d sv' Hk' hs => ?_⟩⟩
    refine ⟨(mb, .map (es.push ⟨kv k, sv', c⟩) (c + 1)) :: (Ho ++ Hk'), ⟨ks ++ [k], _, _, _, rfl, ?_, fun y hy => ?_, ?_, hbn.push _ _⟩, .cons _ List.perm_append_comm⟩
    · rw [List.nodup_append]; exact ⟨hn, by simp, fun a ha b hb e => by simp at hb; subst hb; subst e; exact hk ha⟩
    · rcases List.mem_append.1 hy with hy | hy
      · exact List.mem_append_left _ (hl y hy)
      · simp at hy; simp [hy]
    · rw [Array.toList_push]
      exact (hm.congr fun q hq => fR_ (fun (e : q = k) => hk (e ▸ hq))).push rfl hs
structure MOpn (kv : K → Value) (cells : D → List Value) (e : TypeId) (sz : Nat) (l : List (K × D)) (mb : Nat) (k : K) (es : Array MapEntry) (c i : Nat) (st : Int) (Hr : Hp) : Prop where
  find : es.findIdx? (fun x => (x.born : Int) == st) = some i
  close : ∀ d sv' Hk', bi_ e sz sv' (lat (l ++ [(k, d)]) k).length ((lat (l ++ [(k, d)]) k).flatMap cells) Hk' → ∃ H', iC_ kv cells e sz (l ++ [(k, d)]) mb H' ∧ H'.Perm ((mb, .map (es.modify i fun y => { y with val := sv' }) c) :: (Hk' ++ Hr))
theorem iC_.entry {P : Program} {kt : TypeId} (hK : KeyT P kt kv) {mb : Nat} {H : Hp} (h : iC_ kv cells e sz l mb H) (k : K) :
    ∃ es c es' c' i st sv Hk Hr, H.Perm ((mb, .map es c) :: (Hk ++ Hr)) ∧ bi_ e sz sv (lat l k).length ((lat l k).flatMap cells) Hk ∧ MOpn kv cells e sz l mb k es' c' i st Hr ∧
      ((eD_ P kt (kv k) es.toList none ∧ sv = .slice none 0 0 ∧ es' = es.push ⟨kv k, .slice none 0 0, c⟩ ∧ c' = c + 1 ∧ st = (c : Int)) ∨ (∃ j x, eD_ P kt (kv k) es.toList (some (j, sv)) ∧ es[j]? = some x ∧ x.key = kv k ∧ es' = es ∧ c' = c ∧ st = (x.born : Int))) := by
  have h0 := h
  obtain ⟨ks, es, c, Ho, rfl, hn, hl, hm, hbn⟩ := h0
  by_cases hk : k ∈ ks
  · obtain ⟨i, hi⟩ := List.getElem?_of_mem hk
    obtain ⟨x, Hk, Hr, g1, g2, g3, g4, g5⟩ := hm.get hn hi
    have hx : es[i]? = some x := by rw [← Array.getElem?_toList]; exact g1
    refine ⟨es, c, es, c, i, x.born, x.val, Hk, Hr, .cons _ g2, g4, ⟨hbn.find hx, fun d sv' Hk' hs => ?_⟩, .inr ⟨i, x, hK.sf k es.toList ks i x hm.keys hn hi g1, hx, g3, rfl, rfl, rfl⟩⟩
    obtain ⟨H', j1, j2⟩ := g5 (l ++ [(k, d)]) { x with key := kv k, val := sv' } Hk' rfl (fun q hq => fR_ hq) hs
    refine ⟨(mb, .map (es.modify i fun y => { y with val := sv' }) c) :: H', ⟨ks, _, c, H', rfl, hn, fun y hy => ?_, ?_, hbn.modify i _ fun _ => rfl⟩, .cons _ j2⟩
    · rcases List.mem_append.1 hy with hy | hy
      · exact hl y hy
      · simp at hy; rw [hy]; exact hk
    · have e1 : (es.modify i fun y => { y with val := sv' }).toList = es.toList.set i { x with key := kv k, val := sv' } := by
        apply List.ext_getElem?
        intro j
        rw [Array.getElem?_toList, Array.getElem?_modify, List.getElem?_set, Array.getElem?_toList]
        by_cases hij : i = j
        · subst hij
          have hlt : i < es.toList.length := (List.getElem?_eq_some_iff.1 g1).1
          simp only [if_true, hx, Option.map_some, if_pos hlt]
          rw [← g3]
        · simp [hij]
      rw [e1]; exact j1
  · have hlat : lat l k = [] := by
      apply List.eq_nil_iff_forall_not_mem.2
      intro d hd
      exact hk (hl _ (gv_.1 hd))
    have hb2 := hbn.push (kv k) (.slice none 0 0)
    have hget : (es.push ⟨kv k, .slice none 0 0, c⟩)[es.size]? = some ⟨kv k, .slice none 0 0, c⟩ := by simp
    refine ⟨es, c, es.push ⟨kv k, .slice none 0 0, c⟩, c + 1, es.size, (c : Int), .slice none 0 0, [], Ho, .refl _, by rw [hlat]; exact bi_.nil _ _, ⟨hb2.find hget, fun d sv' Hk' hs => ?_⟩, .inl ⟨hK.nf k es.toList ks hm.keys hk, rfl, rfl, rfl, rfl⟩⟩
    have e2 : ((es.push ⟨kv k, .slice none 0 0, c⟩).modify es.size fun y => { y with val := sv' }) = es.push ⟨kv k, sv', c⟩ := by
      apply Array.ext_getElem?
      intro j
      rw [Array.getElem?_modify, Array.getElem?_push, Array.getElem?_push]
      by_cases hj : j = es.size
      · subst hj; simp
      · rw [if_neg (fun q => hj q.symm), if_neg hj, if_neg hj]
    rw [e2]
    refine ⟨(mb, .map (es.push ⟨kv k, sv', c⟩) (c + 1)) :: (Ho ++ Hk'), ⟨ks ++ [k], _, _, _, rfl, ?_, fun y hy => ?_, ?_, hbn.push _ _⟩, .cons _ List.perm_append_comm⟩
    · rw [List.nodup_append]; exact ⟨hn, by simp, fun a ha b hb e => by simp at hb; subst hb; subst e; exact hk ha⟩
    · rcases List.mem_append.1 hy with hy | hy
      · exact List.mem_append_left _ (hl y hy)
      · simp at hy; simp [hy]
    · rw [Array.toList_push]
      exact (hm.congr fun q hq => fR_ (fun (e : q = k) => hk (e ▸ hq))).push rfl hs
theorem iC_.nil (mb : Nat) (c : Nat) : iC_ kv cells e sz ([] : List (K × D)) mb [(mb, .map #[] c)] := ⟨[], #[], c, [], rfl, List.nodup_nil, by simp, rfl, Born.nil c⟩
theorem mH_ {sv : Value} {n : Nat} {xs : List Value} {Hr : Hp} {v : Vw} (h : bi_ e sz sv n xs Hr) (hv : ∀ p ∈ Hr, v.im p.1 ∧ v.w.heap[p.1]? = some p.2) : ∃ ad cap, sv = .slice ad n cap ∧ n ≤ cap ∧ cap ≤ maxLen ∧ (n ≠ 0 → ∃ b, ad = some ⟨b, 0, none⟩) ∧ bV_ v ad xs := by
  rcases h.2 with ⟨rfl, rfl, rfl⟩ | ⟨g, cap, cur, rfl, rfl, h3, h4, h5, h6⟩
  · have : xs = [] := List.eq_nil_of_length_eq_zero (by simpa using h.1)
    exact ⟨none, 0, rfl, Nat.le_refl _, by simp [maxLen], fun h => absurd rfl h, .inl this⟩
  · obtain ⟨g1, g2⟩ := hv _ (List.mem_singleton.2 rfl)
    refine ⟨some ⟨g, 0, none⟩, cap, rfl, h3, h4, fun _ => ⟨g, rfl⟩, .inr ⟨g, 0, cur, e, (0, 0), rfl, g1, g2, fun j x hj => ?_⟩⟩
    rw [← h6, List.getElem?_take] at hj
    split at hj
    · rw [Nat.zero_add, ← Array.getElem?_toList]; exact hj
    · cases hj
end
section
variable {P : Program} {K : Type} [DecidableEq K] {kv : K → Value} {kt : TypeId}
structure SetE (kv : K → Value) (es : Array MapEntry) (q : List K) : Prop where
  keys : es.toList.map (·.key) = q.map kv
  vals : ∀ x ∈ es.toList, x.val = .bool true
  nd : q.Nodup
theorem SetE.nil : SetE kv #[] ([] : List K) := ⟨rfl, by simp, List.nodup_nil⟩
theorem SetE.size {es : Array MapEntry} {q : List K} (h : SetE kv es q) : es.size = q.length := by
  have := congrArg List.length h.keys
  simpa using this
theorem SetE.yes (hK : KeyT P kt kv) {es : Array MapEntry} {q : List K} (h : SetE kv es q) {k : K} (hk : k ∈ q) : ∃ i x, q[i]? = some k ∧ es[i]? = some x ∧ x.key = kv k ∧ x.val = .bool true ∧ eD_ P kt (kv k) es.toList (some (i, .bool true)) := by
  obtain ⟨i, hi⟩ := List.getElem?_of_mem hk
  have hlt : i < es.toList.length := by
    have := (List.getElem?_eq_some_iff.1 hi).1
    have e := congrArg List.length h.keys
    simp at e this ⊢; omega
  have hx := List.getElem?_eq_getElem hlt
  have hv := h.vals _ (List.getElem_mem hlt)
  have hkey : es.toList[i].key = kv k := by
    have := congrArg (fun l => l[i]?) h.keys
    simp only [List.getElem?_map, hx, hi, Option.map_some, Option.some.injEq] at this
    exact this
  refine ⟨i, es.toList[i], hi, by rw [← Array.getElem?_toList]; exact hx, hkey, hv, ?_⟩
  have := hK.sf k es.toList q i _ h.keys h.nd hi hx
  rwa [hv] at this
theorem SetE.no (hK : KeyT P kt kv) {es : Array MapEntry} {q : List K} (h : SetE kv es q) {k : K} (hk : k ∉ q) : eD_ P kt (kv k) es.toList none := hK.nf k es.toList q h.keys hk
theorem SetE.push {es : Array MapEntry} {q : List K} (h : SetE kv es q) {k : K} (hk : k ∉ q) (c : Nat) : SetE kv (es.push ⟨kv k, .bool true, c⟩) (q ++ [k]) := by
  refine ⟨by simp [h.keys], fun x hx => ?_, ?_⟩
  · rw [Array.toList_push, List.mem_append] at hx
    rcases hx with hx | hx
    · exact h.vals x hx
    · simp at hx; rw [hx]
  · rw [List.nodup_append]; exact ⟨h.nd, by simp, fun a ha b hb e => by simp at hb; subst hb; subst e; exact hk ha⟩
end
section ops
variable {P : Program} {N : Nf} {v0 : Vw} {H0 : Hp} {R : Exit → Act → World → Prop} {Kk : List Kt} {fr : Fr} {H : Hp} {Γ : List Fct}
variable {ops : Array Oper} {lo : List Oper} {d : Nat} {ty : TypeId} {ps : String} {af : Array Edge}
variable {K D : Type} [DecidableEq K] {kv : K → Value} {cells : D → List Value}
theorem fw_ {t kt et : TypeId} {x y : Operand} {mb c : Nat} {es : Array MapEntry} {q : List K} {k : K} (hK : KeyT P kt kv) (hu : ∀ w, (underlying t).run P w = .ok (.map kt et) w) (hz : ∀ w, (zeroValue et).run P w = .ok (.bool false) w) (hx : Fr.ev fr x = some (.map (some mb))) (hy : Fr.ev fr y = some (kv k))
    (hq : SetE kv es q) (hm : ∀ v, v.sat H → aD_ Γ v → v.w.heap[mb]? = some (.map es c)) : Yld P N fr H Γ (.lookup t x y false) ty (.bool (decide (k ∈ q))) := by
  by_cases hk : k ∈ q
  · obtain ⟨i, _, _, _, _, _, hf⟩ := hq.yes hK hk
    rw [decide_eq_true hk]
    exact lp_ hu hx hy hm (hK.ok k) hf
  · rw [decide_eq_false hk]
    exact jt_ hu hz hx hy hm (hK.ok k) (hq.no hK hk)
theorem ly_ {o : Op} {t kt et : TypeId} {x y z : Operand} {b c i : Nat} (n : Nat) {es : Array MapEntry} {e : MapEntry} {k : K} {u u' : Value} (hK : KeyT P kt kv) (ho : o = .insert t x y z ∨ o = .mapUpdate t x y z) (hu : ∀ w, (underlying t).run P w = .ok (.map kt et) w)
    (hx : Fr.ev fr x = some (.map (some b))) (hy : Fr.ev fr y = some (kv k)) (hz : Fr.ev fr z = some u) (hi : H[n]? = some (b, .map es c)) (hf : eD_ P kt (kv k) es.toList (some (i, u'))) (he : es[i]? = some e) (hek : e.key = kv k)
    (hkk : Ops P R N v0 H0 ops lo Kk fr (H.set n (b, .map (es.modify i fun y => { y with key := kv k, val := u }) c)) Γ) : Ops P R N v0 H0 ops (⟨none, o, ty, ps, af, none⟩ :: lo) Kk fr H Γ :=
  cR_ rfl fun a v h1 h2 h3 h4 => by
    have hb := (h2.own _ (List.mem_of_getElem? hi)).1
    have hg := MapKept.run_getObj_map (P := P) hb
    have hs := MapKept.run_setObj_map (P := P) (.map (es.modify i fun y => { y with key := kv k, val := u }) c) hb
    have he : (execOp a.eval ⟨none, o, ty, ps, af, none⟩).run P v.w = .ok .skip { v.w with heap := v.w.heap.setIfInBounds b (.map (es.modify i fun y => { y with key := kv k, val := u }) c) } := by
      rcases ho with rfl | rfl <;> simp [execOp, h1.ev hx, h1.ev hy, h1.ev hz, Instr.mapUpdate, hu, hg, hK.ok _ _ _, hf _, hs, Instr.keyThatStays, he, hek, hK.same]
    unfold Oper.wp
    rw [he]
    have hh := MapKept.heap_set (o' := .map (es.modify i fun y => { y with key := kv k, val := u }) c) hb
    obtain ⟨g1, g2⟩ := eG_ (w' := { v.w with heap := v.w.heap.setIfInBounds b (.map (es.modify i fun y => { y with key := kv k, val := u }) c) }) h2 hi rfl rfl rfl (Nat.le_refl _) (by simp) hh.1 (fun k hk => hh.2 k hk)
    exact hkk a _ h1 g1 (h3.trans g2) (bD_ (g2.le h2) h4)
theorem kI_ {es : Array MapEntry} {i : Nat} {e : MapEntry} {key val : Value} (he : es[i]? = some e) (hk : e.key = key) (hv : e.val = val) : (es.modify i fun y => { y with key := key, val := val }) = es := by
  apply Array.ext_getElem?
  intro j
  rw [Array.getElem?_modify]
  by_cases hij : i = j
  · subst hij; rw [if_pos rfl, he]; simp only [Option.map_some]; rw [← hk, ← hv]
  · rw [if_neg hij]
theorem hV_ {o : Op} {t kt et : TypeId} {x y z : Operand} {b c : Nat} (n : Nat) {es : Array MapEntry} {q : List K} {k : K} (hK : KeyT P kt kv) (ho : o = .insert t x y z ∨ o = .mapUpdate t x y z) (hu : ∀ w, (underlying t).run P w = .ok (.map kt et) w)
    (hx : Fr.ev fr x = some (.map (some b))) (hy : Fr.ev fr y = some (kv k)) (hz : Fr.ev fr z = some (.bool true)) (hi : H[n]? = some (b, .map es c)) (hq : SetE kv es q)
    (hkk : ∀ es' c', SetE kv es' (if k ∈ q then q else q ++ [k]) → Ops P R N v0 H0 ops lo Kk fr (H.set n (b, .map es' c')) Γ) : Ops P R N v0 H0 ops (⟨none, o, ty, ps, af, none⟩ :: lo) Kk fr H Γ := by
  by_cases hk : k ∈ q
  · obtain ⟨i, e, g1, g2, g3, g4, g5⟩ := hq.yes hK hk
    refine ly_ n hK ho hu hx hy hz hi g5 g2 g3 ?_
    rw [kI_ g2 g3 g4]
    exact hkk es c (by rw [if_pos hk]; exact hq)
  · exact lz_ n ho hu hx hy hz hi (hK.ok k) (hq.no hK hk) (hkk _ _ (by rw [if_neg hk]; exact hq.push hk c))
theorem eh_ {b : Nat × Obj} {F : Hp} (h : H.Perm ([b] ++ F)) : H.Perm (b :: F) := h
theorem cE_ {b : Nat × Obj} {F F' : Hp} (h : H.Perm ([b] ++ F)) (h2 : F.Perm F') : H.Perm (b :: F') := List.Perm.trans h (h2.cons b)
end ops
end Go.Sx
namespace Go.Sx
open Go Go.Vs
structure IntE {K : Type} (kv : K → Value) (es : Array MapEntry) (ks : List K) (vs : List Int) : Prop where
  keys : es.toList.map (·.key) = ks.map kv
  vals : es.toList.map (·.val) = vs.map fun n => Value.int .i64 n
  nd : ks.Nodup
section
variable {P : Program} {K : Type} [DecidableEq K] {kv : K → Value} {kt : TypeId} {es : Array MapEntry} {ks : List K} {vs : List Int}
theorem IntE.nil : IntE kv #[] ([] : List K) [] := ⟨rfl, rfl, List.nodup_nil⟩
theorem IntE.len (h : IntE kv es ks vs) : vs.length = ks.length := by
  have h1 := congrArg List.length h.keys
  have h2 := congrArg List.length h.vals
  simp only [List.length_map] at h1 h2
  omega
theorem IntE.yes (hK : KeyT P kt kv) (h : IntE kv es ks vs) {k : K} (hk : k ∈ ks) : ∃ (i : Nat) (n : Int), ks[i]? = some k ∧ vs[i]? = some n ∧ eD_ P kt (kv k) es.toList (some (i, .int .i64 n)) := by
  obtain ⟨i, hi⟩ := List.getElem?_of_mem hk
  have hlt : i < es.toList.length := by
    have := (List.getElem?_eq_some_iff.1 hi).1
    have e := congrArg List.length h.keys
    simp only [List.length_map] at e
    omega
  have hx := List.getElem?_eq_getElem hlt
  have hv := congrArg (fun l => l[i]?) h.vals
  simp only [List.getElem?_map, hx, Option.map_some] at hv
  cases hn : vs[i]? with
  | none => rw [hn] at hv; simp at hv
  | some n =>
    rw [hn] at hv
    simp only [Option.map_some, Option.some.injEq] at hv
    refine ⟨i, n, hi, hn, ?_⟩
    have := hK.sf k es.toList ks i _ h.keys h.nd hi hx
    rwa [hv] at this
theorem IntE.no (hK : KeyT P kt kv) (h : IntE kv es ks vs) {k : K} (hk : k ∉ ks) : eD_ P kt (kv k) es.toList none := hK.nf k es.toList ks h.keys hk
theorem IntE.push (h : IntE kv es ks vs) {k : K} (hk : k ∉ ks) (n : Int) (c : Nat) : IntE kv (es.push ⟨kv k, .int .i64 n, c⟩) (ks ++ [k]) (vs ++ [n]) := by
  refine ⟨by simp [h.keys], by simp [h.vals], ?_⟩
  rw [List.nodup_append]; exact ⟨h.nd, by simp, fun a ha b hb e => by simp at hb; subst hb; subst e; exact hk ha⟩
end
section ops
variable {P : Program} {N : Nf} {v0 : Vw} {H0 : Hp} {R : Exit → Act → World → Prop} {Kk : List Kt} {fr : Fr} {H : Hp} {Γ : List Fct}
variable {ops : Array Oper} {lo : List Oper} {d : Nat} {ty : TypeId} {ps : String} {af : Array Edge}
variable {K : Type} [DecidableEq K] {kv : K → Value}
end ops
end Go.Sx
namespace Go.Sx
open Go
section
variable {P : Program} {N : Nat} {v0 : Vw} {H0 : Hp} {R : Exit → Act → World → Prop} {Kk : List Kt} {fr : Fr} {H : Hp} {Γ : List Fct}
variable {ops : Array Oper} {lo : List Oper} {d : Nat} {ty : TypeId} {ps : String} {af : Array Edge}
variable {K : Type} [DecidableEq K] {kv : K → Value}
structure ItS (kv : K → Value) (es : Array MapEntry) (seen : Array Nat) (done : List K) : Prop where
  nd : done.Nodup
  mem : ∀ e ∈ es.toList, seen.contains e.born = true ↔ ∃ k ∈ done, e.key = kv k
  sub : ∀ k ∈ done, ∃ e ∈ es.toList, e.key = kv k
theorem ItS.nil {es : Array MapEntry} : ItS kv es #[] [] := ⟨List.nodup_nil, fun e _ => by simp, fun k hk => by simp at hk⟩
theorem SetE.entry {es : Array MapEntry} {q : List K} (hE : SetE kv es q) (hi : ∀ x y, kv x = kv y → x = y) {x e : MapEntry} (hx : x ∈ es.toList) (he : e ∈ es.toList) (h : x.key = e.key) : x = e := by
  obtain ⟨i, hi1, hi2⟩ := List.getElem_of_mem hx
  obtain ⟨j, hj1, hj2⟩ := List.getElem_of_mem he
  have hl := congrArg List.length hE.keys
  simp only [List.length_map] at hl
  have key : ∀ (k : Nat) (hk : k < es.toList.length), es.toList[k].key = kv (q[k]'(by omega)) := fun k hk => by
    have := congrArg (fun l => l[k]?) hE.keys
    simp only [List.getElem?_map] at this
    rw [List.getElem?_eq_getElem hk, List.getElem?_eq_getElem (by omega)] at this
    simpa using this
  have e1 := key i hi1
  have e2 := key j hj1
  rw [hi2] at e1
  rw [hj2] at e2
  have e3 := hi _ _ (e1.symm.trans (h.trans e2))
  have hij : i = j := by
    rcases Nat.lt_trichotomy i j with h1 | h1 | h1
    · exact absurd e3 (List.pairwise_iff_getElem.1 hE.nd i j (by omega) (by omega) h1)
    · exact h1
    · exact absurd e3.symm (List.pairwise_iff_getElem.1 hE.nd j i (by omega) (by omega) h1)
  subst hij
  rw [← hi2, ← hj2]
theorem SetE.ofKey {es : Array MapEntry} {q : List K} (hE : SetE kv es q) {e : MapEntry} (he : e ∈ es.toList) : ∃ k ∈ q, e.key = kv k := by
  have : e.key ∈ es.toList.map (·.key) := List.mem_map_of_mem he
  rw [hE.keys] at this
  obtain ⟨k, hk, h⟩ := List.mem_map.1 this
  exact ⟨k, hk, h.symm⟩
theorem ItS.step {es : Array MapEntry} {q : List K} {c : Nat} {seen : Array Nat} {done : List K} {e : MapEntry} (hi : ∀ x y, kv x = kv y → x = y) (hE : SetE kv es q) (hB : Born es c) (h : ItS kv es seen done) (he : e ∈ (leftOf es seen).toList) :
    ∃ k, k ∈ q ∧ k ∉ done ∧ e.key = kv k ∧ e ∈ es.toList ∧ ItS kv es (seen.push e.born) (done ++ [k]) := by
  unfold leftOf at he
  rw [Array.toList_filter, List.mem_filter] at he
  obtain ⟨h1, h2⟩ := he
  obtain ⟨k, hk, hkv⟩ := hE.ofKey h1
  have hnd : k ∉ done := fun hm => by
    have := (h.mem e h1).2 ⟨k, hm, hkv⟩
    rw [this] at h2
    simp at h2
  refine ⟨k, hk, hnd, hkv, h1, ⟨?_, fun x hx => ?_, fun y hy => ?_⟩⟩
  · rw [List.nodup_append]; exact ⟨h.nd, by simp, fun a ha b hb e => by simp at hb; subst hb; subst e; exact hnd ha⟩
  · rw [Array.contains_push, Bool.or_eq_true, h.mem x hx, beq_iff_eq]
    constructor
    · rintro (⟨y, hy, hyv⟩ | h3)
      · exact ⟨y, by simp [hy], hyv⟩
      · have : x = e := by
          have hn := hB.nd
          obtain ⟨i, hi1, hi2⟩ := List.getElem_of_mem hx
          obtain ⟨j, hj1, hj2⟩ := List.getElem_of_mem h1
          have hij : i = j := by
            rcases Nat.lt_trichotomy i j with g | g | g
            · exact ((List.pairwise_iff_getElem.1 hn i j (by simpa using hi1) (by simpa using hj1) g) (by simp only [List.getElem_map, hi2, hj2, h3])).elim
            · exact g
            · exact ((List.pairwise_iff_getElem.1 hn j i (by simpa using hj1) (by simpa using hi1) g) (by simp only [List.getElem_map, hi2, hj2, h3])).elim
          subst hij
          rw [← hi2, ← hj2]
        exact ⟨k, by simp, this ▸ hkv⟩
    · rintro ⟨y, hy, hyv⟩
      rcases List.mem_append.1 hy with hy | hy
      · exact .inl ⟨y, hy, hyv⟩
      · rw [List.mem_singleton] at hy
        subst hy
        exact .inr (congrArg MapEntry.born (hE.entry hi hx h1 (hyv.trans hkv.symm)))
  · rcases List.mem_append.1 hy with hy | hy
    · exact h.sub y hy
    · rw [List.mem_singleton] at hy
      subst hy
      exact ⟨e, h1, hkv⟩
theorem ItS.end {es : Array MapEntry} {q : List K} {seen : Array Nat} {done : List K} (hi : ∀ x y, kv x = kv y → x = y) (hE : SetE kv es q) (h : ItS kv es seen done) (h0 : (leftOf es seen).size = 0) : done.Perm q := by
  refine (List.perm_ext_iff_of_nodup h.nd hE.nd).2 fun k => ⟨fun hk => ?_, fun hk => ?_⟩
  · obtain ⟨e, he, hkv⟩ := h.sub k hk
    obtain ⟨k', hk', hkv'⟩ := hE.ofKey he
    exact hi _ _ (hkv.symm.trans hkv') ▸ hk'
  · have : kv k ∈ es.toList.map (·.key) := by rw [hE.keys]; exact List.mem_map_of_mem hk
    obtain ⟨e, he, hkv⟩ := List.mem_map.1 this
    have hs : seen.contains e.born = true := by
      cases hc : seen.contains e.born
      · exfalso
        have : e ∈ (leftOf es seen).toList := by unfold leftOf; rw [Array.toList_filter, List.mem_filter]; exact ⟨he, by simp only [hc]; rfl⟩
        have h1 := List.length_pos_of_mem this
        simp only [Array.length_toList] at h1
        omega
      · rfl
    obtain ⟨k', hk', hkv'⟩ := (h.mem e he).1 hs
    exact hi _ _ (hkv.symm.trans hkv') ▸ hk'
end
section
variable {P : Program} {N : Nat} {v0 : Vw} {H0 : Hp} {R : Exit → Act → World → Prop} {K : List Kt} {fr : Fr} {H F : Hp} {Γ : List Fct}
end
section
variable {Fc : Fence} {n : Nat} {P : Program} {N : Nat} {D : List Deferred} {v0 : Vw} {H0 : Hp} {R : Exit → Act → World → Prop} {K : List Kt} {fr : Fr} {H : Hp} {Γ : List Fct}
variable {ops : Array Oper} {l : List Oper} {d : Nat} {ty : TypeId} {ps : String} {af : Array Edge}
end
end Go.Sx
namespace Go.Sx
open Go
section
variable {P : Program} {N : Nf} {v0 : Vw} {H0 : Hp} {R : Exit → Act → World → Prop} {K : List Kt} {fr : Fr} {H F : Hp} {Γ : List Fct} {ops : Array Oper} {l : List Oper} {d : Nat} {ty : TypeId} {ps : String} {af : Array Edge} {e : TypeId} {sz n : Nat} {sv : Value} {xs : List Value} {Hr : Hp}
theorem nZ_ (z : List Value) (hz : 0 < z.length) (n : Nat) : madeCells z.toArray (n * z.length) = (ga_ z n).toArray := hQ_ z hz n
theorem he_ {t : TypeId} {x y : Operand} {by' : Nat} {z : Value} (ht : P.underlying t = some (.slice e)) (hi : (P.info? e).map (fun i => (i.zero, i.size, i.bytes)) = some (some z, sz, by')) (hzs : z.cells.toList.length = sz) (hsz : 0 < sz) (hx : Fr.ev fr x = some (.int .i64 (n : Int))) (hy : Fr.ev fr y = some (.int .i64 (n : Int)))
    (hb : by' * n ≤ 281474976710656) (h63 : n ≤ maxLen) (hN : Nat.blt d N.n = true)
    (hk : ∀ sv Hr, bi_ e sz sv n (ga_ z.cells.toList n) Hr → Ops P R N v0 H0 ops l K ((d, sv) :: fr) (Hr ++ H) Γ) : Ops P R N v0 H0 ops (⟨some d, .makeSlice t x y, ty, ps, af, none⟩ :: l) K fr H Γ := by
  refine fP_ (x := fun b => .slice (some ⟨b, 0, none⟩) n n) (o := .cells (ga_ z.cells.toList n).toArray e (0, 0)) hN (fun a v h1 _ _ => ?_) (fun b => hk _ [(b, .cells (ga_ z.cells.toList n).toArray e (0, 0))] ⟨?_, .inr ⟨b, n, (ga_ z.cells.toList n).toArray, rfl, rfl, Nat.le_refl _, h63, ?_, ?_⟩⟩)
  · cases h : P.info? e with
    | none => rw [h] at hi; cases hi
    | some i =>
      rw [h] at hi
      simp only [Option.map_some, Option.some.injEq, Prod.mk.injEq] at hi
      have hb' : (i.bytes : Int) * (n : Int) ≤ 281474976710656 := by
        rw [hi.2.2]
        have h : ((by' * n : Nat) : Int) ≤ 281474976710656 := by omega
        rwa [Int.natCast_mul] at h
      have hr := run_make (P := P) v.w t e i z ht h hi.1 .i64 .i64 (n : Int) (n : Int) (by omega) (Int.le_refl _) hb' (by simp only [maxLen] at h63; omega)
      have hm := nZ_ z.cells.toList (by omega) n
      rw [hzs, Array.toArray_toList] at hm
      rw [hi.2.1, Int.toNat_natCast, hm] at hr
      simp only [execOp, h1.ev hx, h1.ev hy]
      simp [hr]
  · rw [fu_, hzs]
  · simp only [List.size_toArray]; rw [fu_, hzs]
  · rw [List.toList_toArray, List.take_of_length_le (by rw [fu_, hzs]; exact Nat.le_refl _)]
theorem hA_ {α : Type} (f : α → List Value) (z : α) : ∀ n, ga_ (f z) n = (List.replicate n z).flatMap f
  | 0 => rfl
  | n + 1 => by rw [ga_, List.replicate_succ, List.flatMap_cons, hA_ f z n]
end
end Go.Sx
namespace Go.Sx
open Go
def iz_ (t : TypeId) (u : Value) : List PanicEntry := [{ v := .iface t u, recovered := false }]
def js_ {ι : Type} (v0 : Vw) (H0 : Hp) (ret : ι → Value) (H' : ι → Hp) (Γ' : ι → List Fct) (B : Prop) (e : Ending) (w' : World) : Prop :=
  eS_ v0 H0 ret H' Γ' e w' ∨ (B ∧ ∃ t u v', e = .panicked (iz_ t u) ∧ v'.w = w' ∧ v'.sat [] ∧ v0.to H0 v' [])
structure TriX (P : Program) (f : FuncId) (args : Array Value) (H : Hp) (Γ : List Fct) {ι : Type} (ret : ι → Value) (H' : ι → Hp) (Γ' : ι → List Fct) (B : Prop) : Prop where
  callable : fg_ P f
  run : ∀ v, v.sat H → aD_ Γ v → Calls P f args v.w (js_ v H ret H' Γ' B)
theorem Tri.toX {P : Program} {f : FuncId} {args : Array Value} {H : Hp} {Γ : List Fct} {ι : Type} {ret : ι → Value} {H' : ι → Hp} {Γ' : ι → List Fct} (h : Tri P f args H Γ ret H' Γ') (B : Prop) : TriX P f args H Γ ret H' Γ' B :=
  ⟨h.callable, fun v h1 h2 => (h.run v h1 h2).mono fun e w' q => .inl q⟩
theorem TriX.mono {P : Program} {f : FuncId} {args : Array Value} {H : Hp} {Γ : List Fct} {ι : Type} {ret : ι → Value} {H' : ι → Hp} {Γ' : ι → List Fct} {B B' : Prop} (h : TriX P f args H Γ ret H' Γ' B) (hB : B → B') : TriX P f args H Γ ret H' Γ' B' :=
  ⟨h.callable, fun v h1 h2 => (h.run v h1 h2).mono fun e w' q => q.imp id fun q => ⟨hB q.1, q.2⟩⟩
theorem sat_no {v : Vw} {H : Hp} (h : v.sat H) : v.sat [] := ⟨by simp, by simp, h.lt⟩
def gI_ (R : Exit → Act → World → Prop) (N : Nf) (v0 : Vw) (H0 : Hp) (fr : Fr) (F : Hp) : Prop := ∀ a v t u, Fr.sat N fr a → v.sat F → v0.to H0 v F → R (.panic (iz_ t u)) a v.w
section
variable {P : Program} {N : Nf} {v0 : Vw} {H0 : Hp} {R : Exit → Act → World → Prop} {K : List Kt} {fr : Fr} {H : Hp} {Γ : List Fct}
variable {ops : Array Oper} {l : List Oper} {d : Nat} {ty : TypeId} {ps : String} {af : Array Edge}
theorem eu_ {c : List PanicEntry} {a : Act} {w : World} : ∀ (K : List Kt), R (.panic c) a w → post P R K (.panic c) a w
  | [], h => h
  | .seq _ :: K, h => eu_ K h
  | .inv _ :: K, h => eu_ K h
  | .blk _ :: K, h => eu_ K h
theorem hW_ {op : Op} {f : FuncId} {vs : List Value} {ι : Type} {Hc F : Hp} {Γc : List Fct} {ret : ι → Value} {H' : ι → Hp} {Γ' : ι → List Fct} {B : Prop}
    (hT : TriX P f vs.toArray Hc Γc ret H' Γ' B) (he : ∀ a v, Fr.sat N fr a → (execOp a.eval ⟨some d, op, ty, ps, af, none⟩).run P v = .ok (.enter f vs.toArray) v)
    (hH : H.Perm (Hc ++ F)) (hΓ : ∀ v, v.sat H → aD_ Γ v → aD_ Γc v) (hN : Nat.blt d N.n = true) (hp : B → gI_ R N v0 H0 fr F)
    (hk : ∀ x, Ops P R N v0 H0 ops l K ((d, ret x) :: fr) (H' x ++ F) (Γ' x ++ Γ)) : Ops P R N v0 H0 ops (⟨some d, op, ty, ps, af, none⟩ :: l) K fr H Γ :=
  cR_ rfl fun a v h1 h2 h3 h4 => by
    unfold Oper.wp
    rw [he a v.w h1]
    have h2' := h2.perm hH
    refine (hT.run v h2'.sub (hΓ v h2 h4)).mono ?_
    rintro e w' (⟨x, v', rfl, rfl, g1, g2, g3⟩ | ⟨hb, t, u, v', rfl, rfl, g1, g3⟩)
    · obtain ⟨k1, k2⟩ := g3.frame h2' g1
      exact hk x _ v' (h1.put hN) k1 (h3.trans (k2.permL hH.symm)) (em_.2 ⟨g2, bD_ (k2.le h2') h4⟩)
    · obtain ⟨k1, k2⟩ := g3.frame h2' g1
      exact eu_ K (hp hb a v' t u h1 k1 (h3.trans (k2.permL hH.symm)))
theorem ao_ {f : FuncId} {xs : List Operand} {ats : Array TypeId} {vs : List Value} {ι : Type} {Hc F : Hp} {Γc : List Fct} {ret : ι → Value} {H' : ι → Hp} {Γ' : ι → List Fct} {B : Prop}
    (hT : TriX P f vs.toArray Hc Γc ret H' Γ' B) (hx : Fr.evs fr xs = some vs) (hH : H.Perm (Hc ++ F)) (hΓ : ∀ v, v.sat H → aD_ Γ v → aD_ Γc v) (hN : Nat.blt d N.n = true) (hp : B → gI_ R N v0 H0 fr F)
    (hk : ∀ x, Ops P R N v0 H0 ops l K ((d, ret x) :: fr) (H' x ++ F) (Γ' x ++ Γ)) :
    Ops P R N v0 H0 ops (⟨some d, .call ⟨.value (.func f), xs.toArray, ats⟩, ty, ps, af, none⟩ :: l) K fr H Γ :=
  hW_ hT (fun a w h1 => by
    have := h1.evs hx
    simp [execOp, resolve, Deferred.ofValue, Act.eval, invoke, this, hT.callable _ w]) hH hΓ hN hp hk
theorem fn_ {f : FuncId} {g : Operand} {first cap : List Value} {xs : List Operand} {ats : Array TypeId} {vs : List Value} {ι : Type} {Hc F : Hp} {Γc : List Fct} {ret : ι → Value} {H' : ι → Hp} {Γ' : ι → List Fct} {B : Prop}
    (hT : TriX P f (first ++ vs ++ cap).toArray Hc Γc ret H' Γ' B) (hg : Fr.ev fr g = some (.func (.func f) first.toArray cap.toArray)) (hx : Fr.evs fr xs = some vs) (hH : H.Perm (Hc ++ F)) (hΓ : ∀ v, v.sat H → aD_ Γ v → aD_ Γc v) (hN : Nat.blt d N.n = true) (hp : B → gI_ R N v0 H0 fr F)
    (hk : ∀ x, Ops P R N v0 H0 ops l K ((d, ret x) :: fr) (H' x ++ F) (Γ' x ++ Γ)) :
    Ops P R N v0 H0 ops (⟨some d, .call ⟨.value g, xs.toArray, ats⟩, ty, ps, af, none⟩ :: l) K fr H Γ :=
  hW_ hT (fun a w h1 => by
    have e1 := h1.evs hx
    have hc := hT.callable (first ++ vs ++ cap).toArray w
    simp only [execOp, resolve, Deferred.ofValue, h1.ev hg, invoke, List.map_toArray, e1, Sem.run_bind, Sem.run_pure, Result.andThen_ok, List.append_toArray, hc]) hH hΓ hN hp hk
theorem mQ_ {dst : Option Tmp} {x : Operand} {t : TypeId} {u : Value} (hx : Fr.ev fr x = some (.iface t u)) (hp : gI_ R N v0 H0 fr H) : Ops P R N v0 H0 ops (⟨dst, .panic x, ty, ps, af, none⟩ :: l) K fr H Γ :=
  cR_ rfl fun a v h1 h2 h3 h4 => by
    have he : (execOp a.eval ⟨dst, .panic x, ty, ps, af, none⟩).run P v.w = .halt (.panic (.iface t u)) v.w := by
      simp [execOp, h1.ev hx, Instr.panic, goPanic]
    unfold Oper.wp
    rw [he]
    exact eu_ K (hp a v t u h1 h2 h3)
theorem iV_ {N : Nat} {D : List Deferred} {g : Operand} {fv : Fn} {first cap : List Value} {xs : List Operand} {ats : Array TypeId} {vs : List Value} {dst : Option Tmp} (hd : dst = none) (hg : Fr.ev fr g = some (.func fv first.toArray cap.toArray)) (hx : Fr.evs fr xs = some vs)
    (hk : Ops P R ⟨N, { target := .fn fv cap.toArray, args := (first ++ vs).toArray } :: D⟩ v0 H0 ops l K fr H Γ) : Ops P R ⟨N, D⟩ v0 H0 ops (⟨dst, .defer ⟨.value g, xs.toArray, ats⟩, ty, ps, af, none⟩ :: l) K fr H Γ :=
  cR_ rfl fun a v h1 h2 h3 h4 => by
    subst hd
    have e1 := h1.evs hx
    have he : (execOp a.eval ⟨none, .defer ⟨.value g, xs.toArray, ats⟩, ty, ps, af, none⟩).run P v.w = .ok (.defer { target := .fn fv cap.toArray, args := (first ++ vs).toArray }) v.w := by
      simp only [execOp, resolve, Deferred.ofValue, h1.ev hg, List.map_toArray, e1, Sem.run_bind, Sem.run_pure, Result.andThen_ok, List.append_toArray]
    unfold Oper.wp
    rw [he]
    exact hk _ v ⟨h1.size, by simp [Act.put, h1.defers], h1.val⟩ h2 h3 h4
end
section body
variable {P : Program} {fr : Fr} {H : Hp} {Γ : List Fct}
instance {fn : Func} {ι : Type} {v0 : Vw} {H0 : Hp} {ret : ι → Value} {H' : ι → Hp} {Γ' : ι → List Fct} {B : Prop} : NoPan (bodyPost P fn (js_ v0 H0 ret H' Γ' B)) :=
  ⟨fun c a d x w h => by
    refine ⟨?_, h.2⟩
    have := h.1
    cases d <;> exact this⟩
theorem bq_ {N : Nat} {f : FuncId} {fn : Func} {c : Code} {args : List Value} {ι : Type} {ret : ι → Value} {H' : ι → Hp} {Γ' : ι → List Fct} {B : Prop}
    (hf : P.funcs[f]? = some fn) (hb : fn.body = some c) (hn : (fn.name == "runtime.NumGoroutine") = false) (hN : fn.ntmps = N) (hl : Nat.ble args.length N = true)
    (h : ∀ v0, Run P (bodyPost P fn (js_ v0 H ret H' Γ' B)) N v0 H c [] (fD_ 0 args) H Γ) : TriX P f args.toArray H Γ ret H' Γ' B := by
  refine ⟨callable hf hb hn, fun v h1 h2 => calls_of_wp hf hb ?_⟩
  have hl' : args.length ≤ N := Nat.le_of_ble_eq_true hl
  have := h v ⟨args.toArray ++ Array.replicate (fn.ntmps - args.toArray.size) undef, []⟩ v ⟨by simp [hN]; omega, rfl, fun t x ht => ?_⟩ h1 (Vw.to.refl _ _) h2
  · exact this
  · obtain ⟨_, h4⟩ := eA_ args 0 t x ht
    simp only [Nat.sub_zero] at h4
    have hlt := (List.getElem?_eq_some_iff.1 h4).1
    rw [Array.getElem?_append_left (by simpa using hlt)]
    simpa using h4
theorem ci_ {N : Nat} {fn : Func} {ι : Type} {v0 : Vw} {H0 : Hp} {ret : ι → Value} {H' : ι → Hp} {Γ' : ι → List Fct} {B : Prop} (h : Ok N v0 H0 (bodyPost P fn (eS_ v0 H0 ret H' Γ') .ret) fr H Γ) : Ok N v0 H0 (bodyPost P fn (js_ v0 H0 ret H' Γ' B) .ret) fr H Γ :=
  fun a v h1 h2 h3 h4 => let ⟨d, r, hr, hp⟩ := h a v h1 h2 h3 h4; ⟨d, r, hr, .inl hp⟩
theorem endX {N : Nat} {fn : Func} {ι : Type} {v0 : Vw} {H0 : Hp} {ret : ι → Value} {H' : ι → Hp} {Γ' : ι → List Fct} {B : Prop} (h : Ok N v0 H0 (bodyPost P fn (eS_ v0 H0 ret H' Γ') .normal) fr H Γ) : Ok N v0 H0 (bodyPost P fn (js_ v0 H0 ret H' Γ' B) .normal) fr H Γ :=
  fun a v h1 h2 h3 h4 => let ⟨d, r, hr, hp⟩ := h a v h1 h2 h3 h4; ⟨d, r, hr, .inl hp⟩
theorem cA_ {N : Nat} {fn : Func} {ι : Type} {v0 : Vw} {H0 F : Hp} {ret : ι → Value} {H' : ι → Hp} {Γ' : ι → List Fct} {B : Prop} (hB : B) : gI_ (bodyPost P fn (js_ v0 H0 ret H' Γ' B)) N v0 H0 fr F :=
  fun a v t u h1 h2 h3 => ⟨h1.defers, .inr ⟨hB, t, u, v, rfl, rfl, sat_no h2, h3.subR (by simp)⟩⟩
theorem gl_ {N : Nat} {f : FuncId} {fn : Func} {c : Code} {args : List Value} {ι : Type} {ret : ι → Value} {H' : ι → Hp} {Γ' : ι → List Fct}
    (hf : P.funcs[f]? = some fn) (hb : fn.body = some c) (hn : (fn.name == "runtime.NumGoroutine") = false) (hN : fn.ntmps = N) (hl : Nat.ble args.length N = true)
    (h : ∀ v0, Run P (bodyPostD P fn (eS_ v0 H ret H' Γ')) N v0 H c [] (fD_ 0 args) H Γ) : Tri P f args.toArray H Γ ret H' Γ' := by
  refine ⟨callable hf hb hn, fun v h1 h2 => calls_of_wp_defers hf hb ?_⟩
  have hl' : args.length ≤ N := Nat.le_of_ble_eq_true hl
  have := h v ⟨args.toArray ++ Array.replicate (fn.ntmps - args.toArray.size) undef, []⟩ v ⟨by simp [hN]; omega, rfl, fun t x ht => ?_⟩ h1 (Vw.to.refl _ _) h2
  · exact this
  · obtain ⟨_, h4⟩ := eA_ args 0 t x ht
    simp only [Nat.sub_zero] at h4
    have hlt := (List.getElem?_eq_some_iff.1 h4).1
    rw [Array.getElem?_append_left (by simpa using hlt)]
    simpa using h4
theorem nO_ {N : Nat} {fn : Func} {ι : Type} {v0 : Vw} {H0 F : Hp} {ret : ι → Value} {H' : ι → Hp} {Γ' : ι → List Fct} {fv : Fn} {cap dargs : Array Value} {g : FuncId} {cargs : Array Value} (x : ι)
    (hi : ∀ w, (invoke (.fn fv cap) dargs).run P w = .ok (.enter g cargs) w) (hc : ∀ w, CallsD P g cargs .returning w fun e u' w' => e = .returned (.tuple #[]) ∧ u' = .returning ∧ w' = w)
    (hx : ∀ (a : Act) (v : Vw), Fr.sat ⟨N, [{ target := .fn fv cap, args := dargs }]⟩ fr a → v.sat H → (results fn a.tmps).run P v.w = .ok (ret x) v.w) (hH : H.Perm (H' x ++ F)) (hΓ : ∀ v, v.sat H → aD_ Γ v → aD_ (Γ' x) v) :
    Ok ⟨N, [{ target := .fn fv cap, args := dargs }]⟩ v0 H0 (bodyPostD P fn (eS_ v0 H0 ret H' Γ') .ret) fr H Γ := fun a v h1 h2 h3 h4 => by
  show Leaves P fn a.tmps _ a.defers .returning v.w
  rw [h1.defers]
  refine leaves_cons (by simp) (hi v.w) ?_
  refine (hc v.w).mono ?_
  rintro e u' w' ⟨rfl, rfl, rfl⟩
  exact ⟨ret x, hx a v h1 h2, x, v, rfl, rfl, (h2.perm hH).sub, hΓ v h2 h4, h3.subR fun b hb => by
    have : b ∈ (H' x ++ F).map Prod.fst := by rw [List.map_append]; exact List.mem_append_left _ hb
    exact (hH.map Prod.fst).mem_iff.2 this⟩
theorem panDf {N : Nat} {fn : Func} {ι : Type} {v0 : Vw} {H0 F HF' F' : Hp} {ret : ι → Value} {H' : ι → Hp} {Γ' : ι → List Fct} {fv : Fn} {cap dargs : Array Value} {g : FuncId} {cargs : Array Value} (x : ι)
    (hi : ∀ w, (invoke (.fn fv cap) dargs).run P w = .ok (.enter g cargs) w)
    (hc : ∀ (v : Vw) t u, v.sat F → CallsD P g cargs (.panicking (iz_ t u)) v.w fun e u' w' => e = .returned (.tuple #[]) ∧ u' = .panicking [{ v := .iface t u, recovered := true }] ∧ ∃ v' : Vw, v'.w = w' ∧ v'.sat HF' ∧ v.to F v' HF')
    (hx : ∀ (a : Act) (v : Vw), Fr.sat ⟨N, [{ target := .fn fv cap, args := dargs }]⟩ fr a → v.sat HF' → (results fn a.tmps).run P v.w = .ok (ret x) v.w) (hH : HF'.Perm (H' x ++ F')) (hΓ : Γ' x = []) :
    gI_ (bodyPostD P fn (eS_ v0 H0 ret H' Γ')) ⟨N, [{ target := .fn fv cap, args := dargs }]⟩ v0 H0 fr F := fun a v t u h1 h2 h3 => by
  show Leaves P fn a.tmps _ a.defers (.panicking (iz_ t u)) v.w
  rw [h1.defers]
  refine leaves_cons (by simp) (hi v.w) ?_
  refine (hc v t u h2).mono ?_
  rintro e u' w' ⟨rfl, rfl, v', rfl, k1, k2⟩
  have h3' := h3.trans k2
  exact ⟨ret x, hx a v' h1 k1, x, v', rfl, rfl, (k1.perm hH).sub, by rw [hΓ]; trivial, h3'.subR fun b hb => by
    have : b ∈ (H' x ++ F').map Prod.fst := by rw [List.map_append]; exact List.mem_append_left _ hb
    exact (hH.map Prod.fst).mem_iff.2 this⟩
end body
end Go.Sx
namespace Go.Vs
open Go Go.Sx
def Fc.sml (f : Fc) : Prop := f.a.length ≤ 17592186044414 ∧ f.b.length ≤ 17592186044414 ∧ f.r.length ≤ 17592186044414
def wf2 (f : Fc) : Bool :=
  if f.kind = 1 then br_ f.a && (br_ f.b && decide (f = aL_ f.a f.b))
  else if f.kind = 2 then br_ f.a && (br_ f.b && (dd_ f.r && decide (f = bI_ f.a f.r f.b)))
  else if f.kind = 3 then br_ f.a && (bG_ f.r && (decide (f = am_ f.a f.r f.lo f.hi) && (decide (-1099511627776 ≤ f.lo) && (decide (f.lo ≤ f.hi) && decide (f.hi ≤ 1099511627776)))))
  else false
def if_ (k : Int) : Int := if k = 1 ∨ k = 2 ∨ k = 10 then 0 else if k = 4 ∨ k = 7 ∨ k = 8 ∨ k = 9 ∨ k = 12 ∨ k = 13 then 2 else 1
def dV_ (k : Int) : Int :=
  if k = 3 then 1 else if k = 4 then 2 else if k = 5 then 3 else if k = 6 then 5 else if k = 7 then 6 else if k = 8 then 4 else if k = 10 then 7 else if k = 11 then 8 else if k = 14 then 9 else 0
def zfc : Fc := ⟨0, [], [], [], 0, 0⟩
def zpc : Pc := ⟨0, [], [], [], [], [], [], 0, 0, 0⟩
def dL_ (p : List Pc) (s : Str) : Bool := decide (s = [42]) || (decide (s = [33]) || p.any fun x => decide (s ≠ []) && (decide (x.a = s) || (decide (x.b = s) || decide (x.c = s))))
def pH_ (kn : Str → Bool) (x : Pc) (f g h : Fc) : Bool := kn f.a && decide (f = aL_ f.a f.a)
def pG_ (kn : Str → Bool) (x : Pc) (f g h : Fc) : Bool := kn f.a && decide (f = aL_ f.a [42])
def pF_ (kn : Str → Bool) (x : Pc) (f g h : Fc) : Bool := decide (g = aL_ f.a x.a) && decide (f = aL_ f.a x.c)
def ou_ (kn : Str → Bool) (x : Pc) (f g h : Fc) : Bool := decide (g = aL_ f.a x.a) && (decide (h = aL_ f.a x.b) && decide (f = aL_ f.a x.c))
def pE_ (kn : Str → Bool) (x : Pc) (f g h : Fc) : Bool := decide (g = aL_ f.a x.a) && decide (f = bI_ f.a x.r x.c)
def pD_ (kn : Str → Bool) (x : Pc) (f g h : Fc) : Bool := decide (g = bI_ f.a x.r f.b) && decide (f = bI_ f.a x.t f.b)
def ot_ (kn : Str → Bool) (x : Pc) (f g h : Fc) : Bool := decide (g = bI_ f.a x.r g.b) && (decide (h = bI_ g.b x.s f.b) && decide (f = bI_ f.a x.t f.b))
def os_ (kn : Str → Bool) (x : Pc) (f g h : Fc) : Bool := decide (g = bI_ f.a x.r g.b) && (decide (h = aL_ g.b x.a) && decide (f = aL_ f.a x.c))
def or_ (kn : Str → Bool) (x : Pc) (f g h : Fc) : Bool := decide (g = bI_ f.a g.r g.b) && (decide (h = aL_ g.b [33]) && decide (f = aL_ f.a [33]))
def mp_ (kn : Str → Bool) (x : Pc) (f g h : Fc) : Bool := kn f.a && decide (f = bI_ f.a x.r f.a)
def mo_ (kn : Str → Bool) (x : Pc) (f g h : Fc) : Bool := decide (g = aL_ f.a x.a) && decide (f = am_ f.a x.r x.lo x.hi)
def kU_ (kn : Str → Bool) (x : Pc) (f g h : Fc) : Bool := decide (g.kind = 3) && (decide (h.kind = 3) && (decide (g.a = f.a) && (decide (h.a = f.a) && (decide (g.r = h.r) && decide (f = am_ f.a g.r (max g.lo h.lo) (min g.hi h.hi))))))
def kT_ (kn : Str → Bool) (x : Pc) (f g h : Fc) : Bool := decide (g.kind = 3) && (decide (h.kind = 3) && (decide (g.a = f.a) && (decide (h.a = f.a) && (decide (g.r = h.r) && ((decide (g.hi < h.lo) || decide (h.hi < g.lo)) && decide (f = aL_ f.a [33]))))))
def kS_ (kn : Str → Bool) (x : Pc) (f g h : Fc) : Bool := decide (g.kind = 3) && (decide (g.a = f.a) && (decide (g.r = x.r) && (decide (x.lo ≤ g.lo) && (decide (g.hi ≤ x.hi) && decide (f = aL_ f.a x.c)))))
def ov_ (kn : Str → Bool) (x : Pc) (f g h : Fc) : Bool := decide (g = aL_ f.a [33])
def kR_ (kn : Str → Bool) (x : Pc) (f g h : Fc) : Bool := decide (g.kind = 3) && (decide (f = am_ g.a g.r f.lo f.hi) && (decide (f.lo ≤ g.lo) && decide (g.hi ≤ f.hi)))
def hg_ (kn : Str → Bool) (k : Int) (x : Pc) (f g h : Fc) : Bool :=
  if k = 1 then pH_ kn x f g h
  else if k = 2 then pG_ kn x f g h
  else if k = 3 then pF_ kn x f g h
  else if k = 4 then ou_ kn x f g h
  else if k = 5 then pE_ kn x f g h
  else if k = 6 then pD_ kn x f g h
  else if k = 7 then ot_ kn x f g h
  else if k = 8 then os_ kn x f g h
  else if k = 9 then or_ kn x f g h
  else if k = 10 then mp_ kn x f g h
  else if k = 11 then mo_ kn x f g h
  else if k = 12 then kU_ kn x f g h
  else if k = 13 then kT_ kn x f g h
  else if k = 14 then kS_ kn x f g h
  else if k = 15 then ov_ kn x f g h
  else kR_ kn x f g h
def fA_ (facts : List Fc) (frm : List Int) : Bool := frm.all fun q => decide (0 ≤ q) && (decide (q < (facts.length : Int)) && wf2 (facts.getD q.toNat zfc))
def cj_ (facts : List Fc) (frm : List Int) : List Fc := frm.map fun q => facts.getD q.toNat zfc
def fB_ (p : List Pc) (k q : Int) : Bool := if dV_ k = 0 then decide (q = -1) else decide (0 ≤ q) && (decide (q < (p.length : Int)) && decide ((p.getD q.toNat zpc).kind = dV_ k))
def jI_ (p : List Pc) (k q : Int) : Pc := if dV_ k = 0 then zpc else p.getD q.toNat zpc
def dN_ (p : List Pc) (facts : List Fc) (s : Stp) : Bool :=
  decide (1 ≤ s.rule) && (decide (s.rule ≤ 16) && (wf2 s.fact && (decide ((s.frm.length : Int) = if_ s.rule) && (fA_ facts s.frm && (fB_ p s.rule s.piece &&
    hg_ (dL_ p) s.rule (jI_ p s.rule s.piece) s.fact ((cj_ facts s.frm).getD 0 zfc) ((cj_ facts s.frm).getD 1 zfc))))))
end Go.Vs
namespace Go.Vs
open Go Go.Sx
theorem kj_ {f : Fc} (h : wf2 f = true) (hk : f.kind = 3) : f = am_ f.a f.r f.lo f.hi := by
  unfold wf2 at h
  rw [if_neg (by omega), if_neg (by omega), if_pos hk] at h
  simp only [Bool.and_eq_true, decide_eq_true_eq] at h
  exact h.2.2.1
end Go.Vs
namespace Go.Vs
open Go Go.Sx
theorem dC_ {f : Fc} (h : wf2 f = true) (hk : f.kind = 3) : -1099511627776 ≤ f.lo ∧ f.lo ≤ f.hi ∧ f.hi ≤ 1099511627776 := by
  unfold wf2 at h
  rw [if_neg (by omega), if_neg (by omega), if_pos hk] at h
  simp only [Bool.and_eq_true, decide_eq_true_eq] at h
  exact h.2.2.2
theorem dp_ {g : Fc} {a r : Str} {lo hi : Int} (h : g = am_ a r lo hi) : g.kind = 3 ∧ g.a = a ∧ g.r = r := by rw [h]; exact ⟨rfl, rfl, rfl⟩
theorem fK_ {g : Fc} {a r : Str} (wg : wf2 g = true) (hk : g.kind = 3) (ha : g.a = a) (hr : g.r = r) : g = am_ a r g.lo g.hi := by
  have := kj_ wg hk
  rw [ha, hr] at this
  exact this
theorem da_ {kn : Str → Bool} {x : Pc} {f g h : Fc} (wf : wf2 f = true) (wg : wf2 g = true) (wh : wf2 h = true) : kU_ kn x f g h = true ↔
    g = am_ f.a f.r g.lo g.hi ∧ h = am_ f.a f.r h.lo h.hi ∧ max g.lo h.lo ≤ min g.hi h.hi ∧ f = am_ f.a f.r (max g.lo h.lo) (min g.hi h.hi) := by
  simp only [kU_, Bool.and_eq_true, decide_eq_true_eq]
  constructor
  · rintro ⟨h1, h2, h3, h4, h5, h6⟩
    have e0 : f.kind = 3 := by rw [h6]; rfl
    have er : f.r = g.r := by rw [h6]; rfl
    have el : f.lo = max g.lo h.lo := by rw [h6]; rfl
    have eh : f.hi = min g.hi h.hi := by rw [h6]; rfl
    have := (dC_ wf e0).2.1
    refine ⟨fK_ wg h1 h3 er.symm, fK_ wh h2 h4 (by rw [← h5, er]), by omega, by rw [er]; exact h6⟩
  · rintro ⟨h1, h2, _, h4⟩
    obtain ⟨a1, a2, a3⟩ := dp_ h1
    obtain ⟨b1, b2, b3⟩ := dp_ h2
    exact ⟨a1, b1, a2, b2, by rw [a3, b3], by rw [a3]; exact h4⟩
theorem aR_ {kn : Str → Bool} {x : Pc} {f g h : Fc} (wg : wf2 g = true) (wh : wf2 h = true) : kT_ kn x f g h = true ↔
    g = am_ f.a g.r g.lo g.hi ∧ h = am_ f.a g.r h.lo h.hi ∧ (g.hi < h.lo ∨ h.hi < g.lo) ∧ f = aL_ f.a [33] := by
  simp only [kT_, Bool.and_eq_true, Bool.or_eq_true, decide_eq_true_eq]
  constructor
  · rintro ⟨h1, h2, h3, h4, h5, h6, h7⟩
    exact ⟨fK_ wg h1 h3 rfl, fK_ wh h2 h4 h5.symm, h6, h7⟩
  · rintro ⟨h1, h2, h3, h4⟩
    obtain ⟨a1, a2, a3⟩ := dp_ h1
    obtain ⟨b1, b2, b3⟩ := dp_ h2
    exact ⟨a1, b1, a2, b2, b3.symm, h3, h4⟩
theorem il_ {kn : Str → Bool} {x : Pc} {f g h : Fc} (wg : wf2 g = true) : kS_ kn x f g h = true ↔
    g = am_ f.a x.r g.lo g.hi ∧ (x.lo ≤ g.lo ∧ g.hi ≤ x.hi) ∧ f = aL_ f.a x.c := by
  simp only [kS_, Bool.and_eq_true, decide_eq_true_eq]
  constructor
  · rintro ⟨h1, h2, h3, h4, h5, h6⟩
    exact ⟨fK_ wg h1 h2 h3, ⟨h4, h5⟩, h6⟩
  · rintro ⟨h1, ⟨h2, h3⟩, h4⟩
    obtain ⟨a1, a2, a3⟩ := dp_ h1
    exact ⟨a1, a2, a3, h2, h3, h4⟩
theorem ik_ {kn : Str → Bool} {x : Pc} {f g h : Fc} (wf : wf2 f = true) (wg : wf2 g = true) : kR_ kn x f g h = true ↔
    g = am_ f.a f.r g.lo g.hi ∧ f.kind = 3 ∧ (f.lo ≤ g.lo ∧ g.hi ≤ f.hi) := by
  simp only [kR_, Bool.and_eq_true, decide_eq_true_eq]
  constructor
  · rintro ⟨h1, h2, h3, h4⟩
    obtain ⟨a1, a2, a3⟩ := dp_ h2
    exact ⟨fK_ wg h1 a2.symm a3.symm, a1, h3, h4⟩
  · rintro ⟨h1, h2, h3, h4⟩
    obtain ⟨a1, a2, a3⟩ := dp_ h1
    exact ⟨a1, by rw [a2, a3]; exact kj_ wf h2, h3, h4⟩
end Go.Vs
namespace Go.Vs
open Go Go.Sx
def u8C (c : UInt8) : List Value := [.int .u8 (c.toNat : Int)]
theorem dZ_ (c : UInt8) : (u8C c).length = 1 := rfl
theorem dJ_ (c : UInt8) : (u8C c).all Value.oneCell' = true := rfl
def bits (n : Int) : Nat := (n.emod 18446744073709551616).toNat
def ac_ (n : Int) : Nat → List UInt8
  | 0 => []
  | k + 1 => UInt8.ofNat (bits n / 256 ^ k) :: ac_ n k
theorem bf_ (n : Int) : ∀ k, (ac_ n k).length = k
  | 0 => rfl
  | k + 1 => by simp [ac_, bf_ n k]
def aF_ (s : Str) : List UInt8 := ac_ (s.length : Int) 2 ++ s
def bL_ (s : Stp) : List UInt8 :=
  ac_ s.rule 1 ++ ac_ s.fact.kind 1 ++ aF_ s.fact.a ++ aF_ s.fact.b ++ aF_ s.fact.r ++ ac_ s.fact.lo 8 ++ ac_ s.fact.hi 8 ++ ac_ (s.piece + 1) 4 ++ ac_ (s.frm.length : Int) 1 ++ s.frm.flatMap fun q => ac_ q 4
def dI_ (s : Stp) : Bool :=
  decide (0 ≤ s.rule) && (decide (s.rule ≤ 255) && (decide (0 ≤ s.fact.kind) && (decide (s.fact.kind ≤ 255) && (decide (-1 ≤ s.piece) && (decide (s.piece ≤ 2147483646) && (decide (s.frm.length ≤ 255) &&
    ((s.frm.all fun q => decide (0 ≤ q) && decide (q ≤ 2147483647)) && (decide (s.fact.a.length ≤ 65535) && (decide (s.fact.b.length ≤ 65535) && decide (s.fact.r.length ≤ 65535))))))))))
def jY_ (l : List Stp) : List UInt8 := ac_ (l.length : Int) 4 ++ l.flatMap bL_
def dm_ (l : List Stp) : List UInt8 × Int := if 65536 < l.length then ([], 2) else if l.all dI_ then (jY_ l, 0) else ([], 120)
def beN (l : List UInt8) : Nat := l.foldl (fun a c => a * 256 + c.toNat) 0
theorem foldB (l : List UInt8) : ∀ a, l.foldl (fun a c => a * 256 + c.toNat) a = a * 256 ^ l.length + beN l := by
  induction l with
  | nil => intro a; simp [beN]
  | cons c l ih =>
    intro a
    have h := ih (a * 256 + c.toNat)
    have h0 := ih c.toNat
    simp only [List.foldl_cons, List.length_cons, beN, Nat.zero_mul, Nat.zero_add] at h h0 ⊢
    rw [h, h0, Nat.pow_succ, Nat.add_mul]
    have : a * 256 * 256 ^ l.length = a * (256 ^ l.length * 256) := by rw [Nat.mul_assoc, Nat.mul_comm 256]
    omega
theorem it_ (c : UInt8) (l : List UInt8) : beN (c :: l) = c.toNat * 256 ^ l.length + beN l := by
  have := foldB l c.toNat
  simpa [beN] using this
theorem oI_ (l : List UInt8) (c : UInt8) : beN (l ++ [c]) = beN l * 256 + c.toNat := by simp [beN]
theorem is_ : ∀ l : List UInt8, beN l < 256 ^ l.length
  | [] => by simp [beN]
  | c :: l => by
    have h := is_ l
    have hc : c.toNat < 256 := c.toNat_lt
    rw [it_, List.length_cons, Nat.pow_succ]
    have : c.toNat * 256 ^ l.length + 256 ^ l.length ≤ 256 ^ l.length * 256 := by
      rw [Nat.mul_comm (256 ^ l.length)]
      have := Nat.mul_le_mul_right (256 ^ l.length) (show c.toNat + 1 ≤ 256 by omega)
      rw [Nat.add_mul, Nat.one_mul] at this
      exact this
    omega
theorem lj_ (n : Int) : ∀ k, beN (ac_ n k) = bits n % 256 ^ k
  | 0 => by simp [ac_, beN, Nat.mod_one]
  | k + 1 => by
    rw [ac_, it_, lj_ n k, bf_]
    have h1 : (UInt8.ofNat (bits n / 256 ^ k)).toNat = bits n / 256 ^ k % 256 := by simp
    rw [h1, Nat.pow_succ, Nat.mod_mul, Nat.mul_comm (256 ^ k), Nat.add_comm]
theorem kE_ : ∀ (l : List UInt8), l.length ≤ 8 → ∀ m : Int, bits m % 256 ^ l.length = beN l → ac_ m l.length = l
  | [], _, _, _ => rfl
  | c :: l, hl, m, h => by
    rw [List.length_cons] at hl h ⊢
    have hc : c.toNat < 256 := c.toNat_lt
    have hb := is_ l
    rw [it_, Nat.pow_succ, Nat.mod_mul] at h
    have hp : 0 < 256 ^ l.length := Nat.pow_pos (by decide)
    have hr := Nat.mod_lt (bits m) hp
    have h1 : bits m / 256 ^ l.length % 256 = c.toNat := by
      have := congrArg (· / 256 ^ l.length) h
      rw [Nat.add_mul_div_left _ _ hp, Nat.div_eq_of_lt hr, Nat.add_comm (c.toNat * _), Nat.mul_comm c.toNat, Nat.add_mul_div_left _ _ hp, Nat.div_eq_of_lt hb] at this
      omega
    have h2 : bits m % 256 ^ l.length = beN l := by
      rw [h1, Nat.mul_comm] at h
      omega
    rw [ac_, kE_ l (by omega) m h2]
    congr 1
    apply UInt8.toNat.inj
    simpa using h1
def ha_ (n : Nat) (r : List UInt8) : Option (List UInt8 × List UInt8) := if n ≤ r.length then some (r.take n, r.drop n) else none
def cQ_ (n : Nat) (r : List UInt8) : Option (Nat × List UInt8) := (ha_ n r).map fun y => (beN y.1, y.2)
def eQ_ (r : List UInt8) : Option (Nat × List UInt8) := (cQ_ 4 r).bind fun y => if y.1 ≤ 2147483647 then some y else none
def dF_ (r : List UInt8) : Option (Str × List UInt8) := (cQ_ 2 r).bind fun y => ha_ y.1 y.2
def dB_ : Nat → List UInt8 → Option (List Int × List UInt8)
  | 0, r => some ([], r)
  | n + 1, r => (eQ_ r).bind fun y => (dB_ n y.2).map fun z => ((y.1 : Int) :: z.1, z.2)
structure Ds where
  rule : Int
  fact : Fc
  piece : Int
  frm : List Int
def Stp.ds (s : Stp) : Ds := ⟨s.rule, s.fact, s.piece, s.frm⟩
def cq_ (n : Nat) : Int := if n < 9223372036854775808 then n else (n : Int) - 18446744073709551616
def eU_ (r : List UInt8) : Option (Ds × List UInt8) :=
  (cQ_ 1 r).bind fun y1 => (cQ_ 1 y1.2).bind fun y2 => (dF_ y2.2).bind fun y3 => (dF_ y3.2).bind fun y4 => (dF_ y4.2).bind fun y5 => (cQ_ 8 y5.2).bind fun y6 => (cQ_ 8 y6.2).bind fun y7 => (eQ_ y7.2).bind fun y8 => (cQ_ 1 y8.2).bind fun y9 =>
    (dB_ y9.1 y9.2).map fun y => (⟨y1.1, ⟨y2.1, y3.1, y4.1, y5.1, cq_ y6.1, cq_ y7.1⟩, (y8.1 : Int) - 1, y.1⟩, y.2)
def cy_ : Nat → List UInt8 → Option (List Ds × List UInt8)
  | 0, r => some ([], r)
  | n + 1, r => (eU_ r).bind fun y => (cy_ n y.2).map fun z => (y.1 :: z.1, z.2)
def hp_ (r : List UInt8) : Option (List Ds) := (eQ_ r).bind fun y => if y.1 ≤ 65536 then (cy_ y.1 y.2).bind fun z => if z.2 = [] then some z.1 else none else none
end Go.Vs
