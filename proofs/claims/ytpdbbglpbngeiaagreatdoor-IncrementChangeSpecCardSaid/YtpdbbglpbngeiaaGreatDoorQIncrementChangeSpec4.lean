/-
  Part of the proof of the law IncrementChangeSpec over this seat: the small logic, the data, the contracts of functions (no condition).
-/
import Derived.Test.YtpdbbglpbngeiaaGreatDoorQIncrementChangeSpec3
import Derived.Test.YtpdbbglpbngeiaaGreatDoorQIncrementChangeSpec1
import Derived.Scope
import Derived.Lib.AppendZeros
import Derived.Maps.RangeRun
import Derived.Test.YtpdbbglpbngeiaaGreatDoorQIncrementChangeSpec2
set_option linter.unusedVariables false
set_option linter.unusedSimpArgs false
set_option linter.unusedSectionVars false
namespace Go.Vs
open Go Go.Sx
section
variable {ps : List Pc} {A : List Str} {c : List Fc} {x : Ix} {f : Fc}
theorem Cmpl.up {S Fm kn good good' : Fc → Prop} (h : Cmpl ps S Fm kn good f) (hg : ∀ y, good y → good' y) : Cmpl ps S Fm kn good' f :=
  ⟨fun z a h1 h2 h3 => hg _ (h.c3 z a h1 h2 h3), fun z a h1 h2 h3 h4 => hg _ (h.c4 z a h1 h2 h3 h4), fun z a h1 h2 h3 h4 => hg _ (h.c4' z a h1 h2 h3 h4), fun z a h1 h2 h3 => hg _ (h.c5 z a h1 h2 h3), fun z a b h1 h2 h3 => hg _ (h.c6 z a b h1 h2 h3),
   fun z a b c h1 h2 h3 h4 => hg _ (h.c7 z a b c h1 h2 h3 h4), fun z a b c h1 h2 h3 h4 => hg _ (h.c7' z a b c h1 h2 h3 h4), fun z a b h1 h2 h3 h4 => hg _ (h.c8 z a b h1 h2 h3 h4), fun z a b h1 h2 h3 h4 => hg _ (h.c8' z a b h1 h2 h3 h4), fun a r b h1 h2 => hg _ (h.c9 a r b h1 h2), fun a r b h1 h2 => hg _ (h.c9' a r b h1 h2),
   fun z a h1 h2 h3 => hg _ (h.c11 z a h1 h2 h3), fun y h1 h2 h3 h4 h5 h6 h7 => hg _ (h.c12 y h1 h2 h3 h4 h5 h6 h7), fun y h1 h2 h3 h4 h5 h6 h7 => hg _ (h.c13 y h1 h2 h3 h4 h5 h6 h7), fun z a lo hi h1 h2 h3 h4 h5 => hg _ (h.c14 z a lo hi h1 h2 h3 h4 h5)⟩
theorem lW_ {good : Fc → Prop} (hb : ∀ y ∈ ew_ (aH_ ps) A, good y) (hc : ∀ f ∈ c, Cmpl ps (· ∈ c) (fun _ => True) (· ∈ c) good f) {y : Fc} (h : fv_ ps A (· ∈ c) y) : good y := by
  cases h with
  | r1 h => exact hb _ (fI_ h).1
  | r2 h => exact hb _ (fI_ h).2.1
  | r10 hx hk h => exact hb _ ((fI_ h).2.2 _ hx hk)
  | r3 hx hk h => exact (hc _ h).c3 _ _ hx hk rfl
  | r4 hx hk h h' => exact (hc _ h).c4 _ _ hx hk rfl h'
  | r5 hx hk h => exact (hc _ h).c5 _ _ hx hk rfl
  | r6 hx hk h => exact (hc _ h).c6 _ _ _ hx hk rfl
  | r7 hx hk h h' => exact (hc _ h).c7 _ _ _ _ hx hk rfl h'
  | r8 hx hk h h' => exact (hc _ h).c8 _ _ _ hx hk rfl h'
  | r9 h h' => exact (hc _ h).c9 _ _ _ rfl h'
  | r11 hx hk h => exact (hc _ h).c11 _ _ hx hk rfl
  | r12 h h' hm hl => exact (hc _ h).c12 _ rfl h' rfl rfl rfl (.inl trivial) hl
  | r13 h h' hm hl => exact (hc _ h).c13 _ rfl h' rfl rfl rfl (.inl trivial) hl
  | r14 hx hk h h1 h2 => exact (hc _ h).c14 _ _ _ _ hx hk rfl h1 h2
end
def aY_ (l : List Fc) (f : Fc) : Nat := l.countP fun y => decide (y.lt f)
def cT_ (l : List Fc) (f : Fc) : List Fc := if f ∈ l then l else l.take (aY_ l f) ++ f :: l.drop (aY_ l f)
theorem cI_ (l : List Fc) (f : Fc) : aY_ l f ≤ l.length := List.countP_le_length
theorem gp_ : ∀ {l : List Fc} (f : Fc), Srt l → (∀ y ∈ l.take (aY_ l f), y.lt f) ∧ (∀ y ∈ l.drop (aY_ l f), ¬ y.lt f)
  | [], f, _ => by simp [aY_]
  | x :: l, f, h => by
    rw [Srt, List.pairwise_cons] at h
    obtain ⟨i1, i2⟩ := gp_ f h.2
    by_cases hx : x.lt f
    · have e : aY_ (x :: l) f = aY_ l f + 1 := by simp [aY_, hx]
      rw [e]
      simp only [List.take_succ_cons, List.drop_succ_cons]
      exact ⟨fun y hy => (List.mem_cons.1 hy).elim (fun q => q ▸ hx) (i1 y), i2⟩
    · have hall : ∀ y ∈ l, ¬ y.lt f := fun y hy q => hx (Fc.lt_trans (h.1 y hy) q)
      have e : aY_ (x :: l) f = 0 := by
        simp only [aY_, List.countP_cons, hx, decide_false, Bool.false_eq_true, if_false, Nat.add_zero]
        rw [List.countP_eq_zero]
        intro y hy; simpa using hall y hy
      rw [e]
      simp only [List.take_zero, List.not_mem_nil, false_imp_iff, implies_true, true_and, List.drop_zero]
      intro y hy
      rcases List.mem_cons.1 hy with rfl | hy
      · exact hx
      · exact hall y hy
theorem fe_ (l : List Fc) (f y : Fc) : y ∈ cT_ l f ↔ y ∈ l ∨ y = f := by
  unfold cT_
  split
  · rename_i h
    exact ⟨.inl, fun q => q.elim id fun e => e ▸ h⟩
  · have : y ∈ l ↔ y ∈ l.take (aY_ l f) ∨ y ∈ l.drop (aY_ l f) := by rw [← List.mem_append, List.take_append_drop]
    rw [this]
    simp only [List.mem_append, List.mem_cons]
    constructor
    · rintro (h | h | h)
      · exact .inl (.inl h)
      · exact .inr h
      · exact .inl (.inr h)
    · rintro ((h | h) | h)
      · exact .inl h
      · exact .inr (.inr h)
      · exact .inr (.inl h)
theorem hx_ {l : List Fc} (f : Fc) (h : Srt l) : Srt (cT_ l f) := by
  unfold cT_
  split
  · exact h
  · rename_i hn
    obtain ⟨h1, h2⟩ := gp_ f h
    have hd : ∀ y ∈ l.drop (aY_ l f), f.lt y := fun y hy => by
      rcases Fc.lt_tri f y with q | q | q
      · exact q
      · exact absurd (List.mem_of_mem_drop hy) (q ▸ hn)
      · exact absurd q (h2 y hy)
    rw [Srt, List.pairwise_append]
    refine ⟨h.sublist (List.take_sublist _ _), List.pairwise_cons.2 ⟨hd, h.sublist (List.drop_sublist _ _)⟩, fun a ha b hb => ?_⟩
    rcases List.mem_cons.1 hb with rfl | hb
    · exact h1 a ha
    · exact Fc.lt_trans (h1 a ha) (hd b hb)
theorem eL_ {l : List Fc} {f : Fc} (h : f ∉ l) : (cT_ l f).length = l.length + 1 := by
  unfold cT_
  rw [if_neg h]
  have := cI_ l f
  simp; omega
theorem fF_ {l : List Fc} (h : Srt l) (f : Fc) : f ∈ l ↔ l[aY_ l f]? = some f := by
  obtain ⟨h1, h2⟩ := gp_ f h
  refine ⟨fun hf => ?_, fun hf => List.mem_of_getElem? hf⟩
  rw [← List.take_append_drop (aY_ l f) l, List.mem_append] at hf
  rcases hf with hf | hf
  · exact absurd (h1 f hf) (Fc.lt_irr f)
  · have hs : Srt (l.drop (aY_ l f)) := h.sublist (List.drop_sublist _ _)
    cases hd : l.drop (aY_ l f) with
    | nil => rw [hd] at hf; simp at hf
    | cons z r =>
      have hz : l[aY_ l f]? = some z := by
        have := congrArg (fun q => q[0]?) hd
        simpa [List.getElem?_drop] using this
      rw [hd] at hf hs h2
      rcases List.mem_cons.1 hf with rfl | hf
      · exact hz
      · rw [Srt, List.pairwise_cons] at hs
        exact absurd (hs.1 f hf) (h2 z (by simp))
def subA (p : List Pc) (l : List Fc) (f : Fc) : List Fc := p.flatMap fun x =>
  if x.kind = 1 ∧ x.a = f.b then [an_ f.a x.c]
  else if x.kind = 2 ∧ (x.a = f.b ∧ an_ f.a x.b ∈ l ∨ x.b = f.b ∧ an_ f.a x.a ∈ l) then [an_ f.a x.c]
  else if x.kind = 3 ∧ x.a = f.b then [ax_ f.a x.r x.c]
  else if x.kind = 8 ∧ x.a = f.b then [aP_ f.a x.r x.lo x.hi]
  else []
def qB_ (p : List Pc) (f y : Fc) : List Fc := p.flatMap fun x => if x.kind = 4 ∧ x.r = y.r ∧ x.a = f.b then [an_ y.a x.c] else []
def subB (p : List Pc) (f y : Fc) : List Fc := if y.kind ≠ 2 ∨ y.b ≠ f.a then [] else (if f.b = [33] then [an_ y.a [33]] else []) ++ qB_ p f y
def kn_ (p : List Pc) (l : List Fc) (f : Fc) : List Fc := subA p l f ++ l.flatMap (subB p f)
def bQ_ (x : Pc) (f y : Fc) : List Fc := if y.kind ≠ 2 then [] else (if x.r = f.r ∧ y.a = f.b ∧ y.r = x.s then [ax_ f.a x.t y.b] else []) ++ (if x.s = f.r ∧ y.b = f.a ∧ y.r = x.r then [ax_ y.a x.t f.b] else [])
def bF_ (l : List Fc) (f : Fc) (x : Pc) : List Fc :=
  if x.kind = 5 ∧ x.r = f.r then [ax_ f.a x.t f.b]
  else if x.kind = 4 ∧ x.r = f.r ∧ an_ f.b x.a ∈ l then [an_ f.a x.c]
  else if x.kind = 6 then l.flatMap (bQ_ x f) else []
def fB_ (p : List Pc) (l : List Fc) (f : Fc) : List Fc := (if an_ f.b [33] ∈ l then [an_ f.a [33]] else []) ++ p.flatMap (bF_ l f)
def co_ (f y : Fc) : List Fc := if y.kind ≠ 3 ∨ y.a ≠ f.a ∨ y.r ≠ f.r then [] else if max f.lo y.lo ≤ min f.hi y.hi then [dJ_ f y] else [an_ f.a [33]]
def cV_ (f : Fc) (x : Pc) : List Fc := if x.kind = 9 ∧ x.r = f.r ∧ x.lo ≤ f.lo ∧ f.hi ≤ x.hi then [an_ f.a x.c] else []
def fU_ (p : List Pc) (l : List Fc) (f : Fc) : List Fc := l.flatMap (co_ f) ++ p.flatMap (cV_ f)
def cC_ (p : List Pc) (l : List Fc) (f : Fc) : List Fc := if f.kind = 1 then kn_ p l f else if f.kind = 2 then fB_ p l f else fU_ p l f
def eE_ (p : List Pc) (A : List Str) : List Fc := A.flatMap fun a => an_ a a :: an_ a [42] :: (p.filter fun x => decide (x.kind = 7)).map fun x => ax_ a x.r a
theorem hW_ (p : List Pc) (A : List Str) : eE_ p A = ew_ (aH_ p) A := by
  unfold eE_ ew_ aH_
  simp [List.map_map, Function.comp_def]
section
variable {p : List Pc} {A : List Str} {l : List Fc} {f : Fc}
theorem hZ_ (hf : f ∈ l) (hF : ∀ y ∈ l, y.form) : ∀ y ∈ cC_ p l f, fv_ p A (· ∈ l) y := by
  have hff := hF f hf
  have hk := gK_ hff
  intro y hy
  unfold cC_ at hy
  split at hy
  · rename_i h1
    have ef := jl_ hff h1
    rcases List.mem_append.1 hy with hy | hy
    · obtain ⟨x, hx, hy⟩ := List.mem_flatMap.1 hy
      split at hy
      · rename_i hc
        simp at hy; subst hy
        exact .r3 hx hc.1 (by rw [hc.2, ← ef]; exact hf)
      · split at hy
        · rename_i hc
          simp at hy; subst hy
          rcases hc.2 with h | h
          · exact .r4 hx hc.1 (by rw [h.1, ← ef]; exact hf) h.2
          · exact .r4 hx hc.1 h.2 (by rw [h.1, ← ef]; exact hf)
        · split at hy
          · rename_i hc
            simp at hy; subst hy
            exact .r5 hx hc.1 (by rw [hc.2, ← ef]; exact hf)
          · split at hy
            · rename_i hc
              simp at hy; subst hy
              exact .r11 hx hc.1 (by rw [hc.2, ← ef]; exact hf)
            · simp at hy
    · obtain ⟨g, hg, hy⟩ := List.mem_flatMap.1 hy
      unfold subB at hy
      split at hy
      · simp at hy
      · rename_i hc
        simp only [not_or, Decidable.not_not] at hc
        have eg := (hA_ (hF g hg) hc.1).1
        rcases List.mem_append.1 hy with hy | hy
        · split at hy
          · rename_i hb
            simp at hy; subst hy
            exact .r9 (r := g.r) (b := g.b) (by rw [← eg]; exact hg) (by rw [hc.2, ← hb, ← ef]; exact hf)
          · simp at hy
        · obtain ⟨x, hx, hy⟩ := List.mem_flatMap.1 hy
          split at hy
          · rename_i hd
            simp at hy; subst hy
            exact .r8 (b := g.b) hx hd.1 (by rw [hd.2.1, ← eg]; exact hg) (by rw [hc.2, hd.2.2, ← ef]; exact hf)
          · simp at hy
  · split at hy
    · rename_i h2
      have ef := (hA_ hff h2).1
      rcases List.mem_append.1 hy with hy | hy
      · split at hy
        · rename_i hb
          simp at hy; subst hy
          exact .r9 (r := f.r) (b := f.b) (by rw [← ef]; exact hf) hb
        · simp at hy
      · obtain ⟨x, hx, hy⟩ := List.mem_flatMap.1 hy
        unfold bF_ at hy
        split at hy
        · rename_i hc
          simp at hy; subst hy
          exact .r6 hx hc.1 (by rw [hc.2, ← ef]; exact hf)
        · split at hy
          · rename_i hc
            simp at hy; subst hy
            exact .r8 (b := f.b) hx hc.1 (by rw [hc.2.1, ← ef]; exact hf) hc.2.2
          · split at hy
            · rename_i hc
              obtain ⟨g, hg, hy⟩ := List.mem_flatMap.1 hy
              unfold bQ_ at hy
              split at hy
              · simp at hy
              · rename_i hgk
                have eg := (hA_ (hF g hg) (Decidable.not_not.1 hgk)).1
                rcases List.mem_append.1 hy with hy | hy
                · split at hy
                  · rename_i hd
                    simp at hy; subst hy
                    exact .r7 (b := f.b) hx hc (by rw [hd.1, ← ef]; exact hf) (by rw [← hd.2.2, ← hd.2.1, ← eg]; exact hg)
                  · simp at hy
                · split at hy
                  · rename_i hd
                    simp at hy; subst hy
                    exact .r7 (b := f.a) hx hc (by rw [← hd.2.2, ← hd.2.1, ← eg]; exact hg) (by rw [hd.1, ← ef]; exact hf)
                  · simp at hy
            · simp at hy
    · rename_i h1 h2
      have h3 : f.kind = 3 := by omega
      have ef := (gg_ hff h3).1
      rcases List.mem_append.1 hy with hy | hy
      · obtain ⟨g, hg, hy⟩ := List.mem_flatMap.1 hy
        unfold co_ at hy
        split at hy
        · simp at hy
        · rename_i hc
          simp only [not_or, Decidable.not_not] at hc
          have eg := (gg_ (hF g hg) hc.1).1
          rw [hc.2.1, hc.2.2] at eg
          split at hy
          · rename_i hl
            simp at hy; subst hy
            exact .r12 (by rw [← ef]; exact hf) (by rw [← eg]; exact hg) trivial hl
          · rename_i hl
            simp at hy; subst hy
            exact .r13 (r := f.r) (by rw [← ef]; exact hf) (by rw [← eg]; exact hg) trivial (Int.not_le.1 hl)
      · obtain ⟨x, hx, hy⟩ := List.mem_flatMap.1 hy
        unfold cV_ at hy
        split at hy
        · rename_i hc
          simp at hy; subst hy
          exact .r14 hx hc.1 (by rw [hc.2.1, ← ef]; exact hf) hc.2.2.1 hc.2.2.2
        · simp at hy
theorem iB_ : Cmpl p (· ∈ l) (fun _ => True) (· ∈ l) (· ∈ cC_ p l f) f := by
  have s1 : ∀ {a b y}, f = an_ a b → (y ∈ kn_ p l f) → y ∈ cC_ p l f := fun e h => by unfold cC_; rw [if_pos (by rw [e]; rfl)]; exact h
  have s2 : ∀ {a r b y}, f = ax_ a r b → (y ∈ fB_ p l f) → y ∈ cC_ p l f := fun e h => by unfold cC_; rw [if_neg (by rw [e]; simp [ax_]), if_pos (by rw [e]; rfl)]; exact h
  have s3 : ∀ {y}, f.kind = 3 → (y ∈ fU_ p l f) → y ∈ cC_ p l f := fun e h => by unfold cC_; rw [if_neg (by rw [e]; decide), if_neg (by rw [e]; decide)]; exact h
  refine ⟨?_, ?_, ?_, ?_, ?_, ?_, ?_, ?_, ?_, ?_, ?_, ?_, ?_, ?_, ?_⟩
  · intro z a hz hk e
    refine s1 e (List.mem_append_left _ (List.mem_flatMap.2 ⟨z, hz, ?_⟩))
    rw [e, if_pos ⟨hk, rfl⟩]; simp [an_]
  · intro z a hz hk e h
    refine s1 e (List.mem_append_left _ (List.mem_flatMap.2 ⟨z, hz, ?_⟩))
    rw [e, if_neg (by rw [hk]; simp), if_pos ⟨hk, .inl ⟨rfl, h⟩⟩]; simp [an_]
  · intro z a hz hk e h
    refine s1 e (List.mem_append_left _ (List.mem_flatMap.2 ⟨z, hz, ?_⟩))
    rw [e, if_neg (by rw [hk]; simp), if_pos ⟨hk, .inr ⟨rfl, h⟩⟩]; simp [an_]
  · intro z a hz hk e
    refine s1 e (List.mem_append_left _ (List.mem_flatMap.2 ⟨z, hz, ?_⟩))
    rw [e, if_neg (by rw [hk]; simp), if_neg (by rw [hk]; simp), if_pos ⟨hk, rfl⟩]; simp [an_]
  · intro z a b hz hk e
    refine s2 e (List.mem_append_right _ (List.mem_flatMap.2 ⟨z, hz, ?_⟩))
    rw [e, bF_, if_pos ⟨hk, rfl⟩]; simp [ax_]
  · intro z a b c hz hk e h
    refine s2 e (List.mem_append_right _ (List.mem_flatMap.2 ⟨z, hz, ?_⟩))
    rw [e, bF_, if_neg (by rw [hk]; simp), if_neg (by rw [hk]; simp), if_pos hk]
    refine List.mem_flatMap.2 ⟨_, h, ?_⟩
    rw [bQ_, if_neg (by simp [ax_])]
    refine List.mem_append_left _ ?_
    rw [if_pos ⟨rfl, rfl, rfl⟩]; simp [ax_]
  · intro z a b c hz hk e h
    refine s2 e (List.mem_append_right _ (List.mem_flatMap.2 ⟨z, hz, ?_⟩))
    rw [e, bF_, if_neg (by rw [hk]; simp), if_neg (by rw [hk]; simp), if_pos hk]
    refine List.mem_flatMap.2 ⟨_, h, ?_⟩
    rw [bQ_, if_neg (by simp [ax_])]
    refine List.mem_append_right _ ?_
    rw [if_pos ⟨rfl, rfl, rfl⟩]; simp [ax_]
  · intro z a b hz hk e h
    refine s2 e (List.mem_append_right _ (List.mem_flatMap.2 ⟨z, hz, ?_⟩))
    rw [e, bF_, if_neg (by rw [hk]; simp), if_pos ⟨hk, rfl, h⟩]; simp [ax_]
  · intro z a b hz hk e h
    refine s1 e (List.mem_append_right _ (List.mem_flatMap.2 ⟨_, h, ?_⟩))
    rw [subB, if_neg (by rw [e]; simp [ax_, an_])]
    refine List.mem_append_right _ (List.mem_flatMap.2 ⟨z, hz, ?_⟩)
    rw [e, if_pos ⟨hk, rfl, rfl⟩]; simp [ax_]
  · intro a r b e h
    refine s2 e (List.mem_append_left _ ?_)
    rw [e, if_pos (show an_ (ax_ a r b).b [33] ∈ l from h)]; simp [ax_]
  · intro a r b e h
    refine s1 e (List.mem_append_right _ (List.mem_flatMap.2 ⟨_, h, ?_⟩))
    rw [subB, if_neg (by rw [e]; simp [ax_, an_])]
    refine List.mem_append_left _ ?_
    rw [e, if_pos (show (an_ b [33]).b = [33] from rfl)]; simp [ax_]
  · intro z a hz hk e
    refine s1 e (List.mem_append_left _ (List.mem_flatMap.2 ⟨z, hz, ?_⟩))
    rw [e, if_neg (by rw [hk]; simp), if_neg (by rw [hk]; simp), if_neg (by rw [hk]; simp), if_pos ⟨hk, rfl⟩]; simp [an_]
  · intro y h3 hy hk ha hr _ hl
    refine s3 h3 (List.mem_append_left _ (List.mem_flatMap.2 ⟨y, hy, ?_⟩))
    rw [co_, if_neg (by simp [hk, ha, hr]), if_pos hl]; simp
  · intro y h3 hy hk ha hr _ hl
    refine s3 h3 (List.mem_append_left _ (List.mem_flatMap.2 ⟨y, hy, ?_⟩))
    rw [co_, if_neg (by simp [hk, ha, hr]), if_neg (Int.not_le.2 hl)]; simp
  · intro z a lo hi hz hk e h1 h2
    refine s3 (by rw [e]; rfl) (List.mem_append_right _ (List.mem_flatMap.2 ⟨z, hz, ?_⟩))
    rw [e, cV_, if_pos ⟨hk, rfl, h1, h2⟩]; simp [aP_]
theorem dG_ {α β : Type} {g : α → List β} {n : Nat} : ∀ (l : List α), (∀ x ∈ l, (g x).length ≤ n) → (l.flatMap g).length ≤ l.length * n
  | [], _ => by simp
  | x :: l, h => by
    have := dG_ l fun y hy => h y (by simp [hy])
    have hx := h x (by simp)
    simp only [List.flatMap_cons, List.length_append, List.length_cons, Nat.add_mul, Nat.one_mul]
    omega
theorem jQ_ (hp : p.length ≤ 100) (hl : l.length ≤ 65536) : (cC_ p l f).length ≤ 14000000 := by
  have a1 : (subA p l f).length ≤ p.length * 1 := dG_ p fun x _ => by (repeat' split) <;> simp
  have a2 : ∀ y, (qB_ p f y).length ≤ p.length * 1 := fun y => dG_ p fun x _ => by split <;> simp
  have a3 : (l.flatMap (subB p f)).length ≤ l.length * 101 := dG_ l fun y _ => by
    have := a2 y
    unfold subB
    split
    · simp
    · rw [List.length_append]
      split <;> simp <;> omega
  have a4 : ∀ x y, (bQ_ x f y).length ≤ 2 := fun x y => by
    unfold bQ_
    repeat' split
    all_goals simp
  have a5 : (p.flatMap (bF_ l f)).length ≤ p.length * 131072 := dG_ p fun x _ => by
    unfold bF_
    split
    · simp
    · split
      · simp
      · split
        · have := dG_ l fun y _ => a4 x y
          omega
        · simp
  have a6 : (l.flatMap (co_ f)).length ≤ l.length * 1 := dG_ l fun y _ => by
    unfold co_
    repeat' split
    all_goals simp
  have a7 : (p.flatMap (cV_ f)).length ≤ p.length * 1 := dG_ p fun y _ => by
    unfold cV_
    split <;> simp
  unfold cC_
  split
  · rw [kn_, List.length_append]; omega
  · split
    · rw [fB_, List.length_append]
      have : (if an_ f.b [33] ∈ l then [an_ f.a [33]] else []).length ≤ 1 := by split <;> simp
      omega
    · rw [fU_, List.length_append]; omega
structure InvR (p : List Pc) (A : List Str) (m : Nat) (l t : List Fc) : Prop where
  srt : Srt l
  len : l.length ≤ m
  der : ∀ y, y ∈ l ∨ y ∈ t → Der p A y
  cl : ∀ y, fv_ p A (· ∈ l) y → y ∈ l ∨ y ∈ t
theorem mw_ (m : Nat) : InvR p A m [] (eE_ p A) := by
  rw [hW_]
  refine ⟨List.Pairwise.nil, Nat.zero_le _, fun y hy => ?_, fun y hy => ?_⟩
  · rcases hy with hy | hy
    · simp at hy
    · exact Der.step (gy_ y hy)
  · refine .inr (lW_ (good := (· ∈ ew_ (aH_ p) A)) (c := []) (fun _ h => h) (by simp) hy)
theorem pi_ {m : Nat} {t : List Fc} (h : InvR p A m l (f :: t)) (hf : f ∈ l) : InvR p A m l t :=
  ⟨h.srt, h.len, fun y hy => h.der y (hy.imp id (by simp +contextual)), fun y hy => (h.cl y hy).elim .inl fun q => (List.mem_cons.1 q).elim (fun e => .inl (e ▸ hf)) .inr⟩
theorem lQ_ (hp : ∀ x ∈ p, x.vok) {m : Nat} {t : List Fc} (h : InvR p A m l (f :: t)) (hf : f ∉ l) (hm : l.length < m) : InvR p A m (cT_ l f) (t ++ cC_ p (cT_ l f) f) := by
  have hdf : Der p A f := h.der f (.inr (by simp))
  have hmem : (fun y => y ∈ cT_ l f) = (fun y => y ∈ l ∨ y = f) := funext fun y => propext (fe_ l f y)
  have hform : ∀ y ∈ cT_ l f, y.form := fun y hy => by
    rcases (fe_ l f y).1 hy with q | q
    · exact (h.der y (.inl q)).form hp
    · rw [q]; exact hdf.form hp
  have hfi : f ∈ cT_ l f := (fe_ l f f).2 (.inr rfl)
  have hl : ∀ y ∈ cT_ l f, Der p A y := fun y hy => by
    rcases (fe_ l f y).1 hy with q | q
    · exact h.der y (.inl q)
    · rw [q]; exact hdf
  refine ⟨hx_ f h.srt, by rw [eL_ hf]; exact hm, fun y hy => ?_, fun y hy => ?_⟩
  · rcases hy with hy | hy
    · exact hl y hy
    · rcases List.mem_append.1 hy with hy | hy
      · exact h.der y (.inr (by simp [hy]))
      · exact Der.step ((hZ_ (A := A) hfi hform y hy).mono (fun x hx => ⟨x, hx, x.frm, rfl⟩) (fun _ h => h) hl (fun _ _ h => h))
  · have hc : Cmpl p (fun y => y ∈ l ∨ y = f) (fun _ => True) (fun y => y ∈ l ∨ y = f) (fun y => y ∈ cT_ l f ∨ y ∈ t ++ cC_ p (cT_ l f) f) f := by
      have := (iB_ (p := p) (l := cT_ l f) (f := f)).up (good' := fun y => y ∈ cT_ l f ∨ y ∈ t ++ cC_ p (cT_ l f) f) fun y hy => .inr (List.mem_append_right _ hy)
      rw [hmem] at this
      exact this
    have hy' : One p A (fun y => y ∈ l ∨ y = f) (fun _ _ => True ∨ True) y := by
      have h2 : One p A (fun y => y ∈ cT_ l f) (fun _ _ => True ∨ True) y := hy.mono (fun x hx => ⟨x, hx, x.frm, rfl⟩) (fun _ h => h) (fun _ h => h) (fun _ _ _ => .inl trivial)
      rw [hmem] at h2
      exact h2
    refine nf_ (A := A) hc (fun _ h => h) (fun z hz => ?_) y hy'
    rcases h.cl z (hz.mono (fun x hx => ⟨x, hx, x.frm, rfl⟩) (fun _ h => h) (fun _ h => h) (fun _ _ _ => trivial)) with q | q
    · exact .inl ((fe_ l f z).2 (.inl q))
    · rcases List.mem_cons.1 q with q | q
      · exact .inl ((fe_ l f z).2 (.inr q))
      · exact .inr (List.mem_append_left _ q)
theorem nP_ {m : Nat} (h : InvR p A m l []) : dt_ p A m (some l) :=
  ⟨h.srt, fun y => ⟨fun hy => h.der y (.inl hy), fun hy => hy.least fun z hz => (h.cl z hz).resolve_right (by simp)⟩, h.len⟩
theorem hU_ {m : Nat} {t : List Fc} (h : InvR p A m l (f :: t)) (hf : f ∉ l) (hm : m ≤ l.length) : dt_ p A m none :=
  ⟨f :: l, List.nodup_cons.2 ⟨hf, h.srt.nodup⟩, fun y hy => h.der y ((List.mem_cons.1 hy).elim (fun e => .inr (by simp [e])) .inl), by simp only [List.length_cons]; omega⟩
theorem lD_ (hF : ∀ y ∈ l, y.form) (y : Fc) : y ∈ eE_ p A ++ l.flatMap (fun f => cC_ p l f) ↔ fv_ p A (· ∈ l) y := by
  constructor
  · intro hy
    rcases List.mem_append.1 hy with hy | hy
    · rw [hW_] at hy; exact gy_ y hy
    · obtain ⟨f, hf, hy⟩ := List.mem_flatMap.1 hy
      exact hZ_ hf hF y hy
  · intro hy
    refine lW_ (c := l) (good := fun y => y ∈ eE_ p A ++ l.flatMap (fun f => cC_ p l f)) (fun y hy => List.mem_append_left _ (by rw [hW_]; exact hy)) (fun f hf => ?_) hy
    exact iB_.up fun y hy => List.mem_append_right _ (List.mem_flatMap.2 ⟨f, hf, hy⟩)
end
def grow1 (p : List Pc) (A : List Str) (l : List Fc) : List Fc := (eE_ p A ++ l.flatMap (fun f => cC_ p l f)).foldl cT_ l
def gQ_ (p : List Pc) (A : List Str) : Nat → List Fc
  | 0 => []
  | n + 1 => grow1 p A (gQ_ p A n)
theorem jf_ : ∀ (xs l : List Fc) (y : Fc), y ∈ xs.foldl cT_ l ↔ y ∈ l ∨ y ∈ xs
  | [], l, y => by simp
  | x :: xs, l, y => by
    rw [List.foldl_cons, jf_ xs, fe_]
    simp only [List.mem_cons]
    constructor
    · rintro ((h | h) | h)
      · exact .inl h
      · exact .inr (.inl h)
      · exact .inr (.inr h)
    · rintro (h | h | h)
      · exact .inl (.inl h)
      · exact .inl (.inr h)
      · exact .inr h
theorem je_ : ∀ (xs : List Fc) {l : List Fc}, Srt l → Srt (xs.foldl cT_ l)
  | [], _, h => h
  | x :: xs, _, h => je_ xs (hx_ x h)
theorem jw_ (p : List Pc) (A : List Str) : ∀ n, Srt (gQ_ p A n)
  | 0 => List.Pairwise.nil
  | n + 1 => je_ _ (jw_ p A n)
theorem hG_ {p : List Pc} {A : List Str} (hp : ∀ x ∈ p, x.vok) : ∀ n, ∀ y ∈ gQ_ p A n, Der p A y
  | 0, y, hy => by simp [gQ_] at hy
  | n + 1, y, hy => by
    have ih := hG_ (A := A) hp n
    rcases (jf_ _ _ y).1 hy with h | h
    · exact ih y h
    · exact Der.step (((lD_ (fun z hz => (ih z hz).form hp) y).1 h).mono (fun x hx => ⟨x, hx, x.frm, rfl⟩) (fun _ h => h) ih (fun _ _ h => h))
theorem hH_ {p : List Pc} {A : List Str} (hp : ∀ x ∈ p, x.vok) (n m : Nat) (hc : ((eE_ p A ++ (gQ_ p A n).flatMap (fun f => cC_ p (gQ_ p A n) f)).all fun y => decide (y ∈ gQ_ p A n)) = true) (hl : (gQ_ p A n).length ≤ m) : dt_ p A m (some (gQ_ p A n)) := by
  refine ⟨jw_ p A n, fun y => ⟨hG_ hp n y, fun h => h.least fun z hz => ?_⟩, hl⟩
  exact of_decide_eq_true (List.all_eq_true.1 hc z ((lD_ (fun w hw => (hG_ hp n w hw).form hp) z).2 hz))
theorem nW_ {p : List Pc} {A : List Str} (hp : ∀ x ∈ p, x.vok) (n m : Nat) (hl : m < (gQ_ p A n).length) : dt_ p A m none := ⟨gQ_ p A n, (jw_ p A n).nodup, hG_ hp n, hl⟩
end Go.Vs
namespace Go.Sx
open Go Go.Vs
theorem le_ {P : Program} {f : FuncId} {args : Array Value} {H : Hp} {Γ Γ0 : List Fct} {ι : Type} {ret : ι → Value} {H' : ι → Hp} (B : Hp) (hT : Tri P f args H Γ ret H' (fun _ => []))
    (hΓ : ∀ v : Vw, (∀ p ∈ B, v.im p.1 ∧ v.w.heap[p.1]? = some p.2) → bd_ Γ0 v → bd_ Γ v) : Tri P f args (B ++ H) Γ0 ret (fun x => B ++ H' x) (fun _ => []) := by
  refine ⟨hT.callable, fun v hs hv => ?_⟩
  have hnd := hs.nodup
  rw [List.map_append, List.nodup_append] at hnd
  have hlt : ∀ p ∈ B, p.1 < v.w.heap.size := fun p hp => (Array.getElem?_eq_some_iff.1 (hs.own p (List.mem_append_left _ hp)).1).1
  have h1 : (⟨fun b => v.im b ∨ b ∈ B.map Prod.fst, v.w, v.sl⟩ : Vw).sat H := by
    refine ⟨fun p hp => ⟨(hs.own p (List.mem_append_right _ hp)).1, fun hi => ?_⟩, hnd.2.1, fun b hb => ?_⟩
    · rcases hi with hi | hi
      · exact (hs.own p (List.mem_append_right _ hp)).2 hi
      · exact hnd.2.2 _ hi _ (List.mem_map_of_mem hp) rfl
    · rcases hb with hb | hb
      · exact hs.lt b hb
      · obtain ⟨p, hp, rfl⟩ := List.mem_map.1 hb
        exact hlt p hp
  have hle : v.le ⟨fun b => v.im b ∨ b ∈ B.map Prod.fst, v.w, v.sl⟩ := ⟨fun b h => .inl h, fun _ _ => rfl, rfl⟩
  have h2 := hΓ ⟨fun b => v.im b ∨ b ∈ B.map Prod.fst, v.w, v.sl⟩ (fun p hp => ⟨.inr (List.mem_map_of_mem hp), (hs.own p (List.mem_append_left _ hp)).1⟩) (ck_ hle hv)
  refine (hT.run _ h1 h2).mono ?_
  rintro e w' ⟨x, v', rfl, rfl, g1, _, g3⟩
  have hB : ∀ b, b ∈ B.map Prod.fst → v'.im b := fun b hb => g3.imUp b (.inr hb)
  refine ⟨x, ⟨fun b => v'.im b ∧ b ∉ B.map Prod.fst, v'.w, v'.sl⟩, rfl, rfl, ⟨fun p hp => ?_, ?_, fun b hb => g1.lt b hb.1⟩, trivial, ?_⟩
  · rcases List.mem_append.1 hp with hp | hp
    · refine ⟨?_, fun h => h.2 (List.mem_map_of_mem hp)⟩
      have := (g3.le h1).block p.1 (.inr (List.mem_map_of_mem hp))
      exact this.trans (hs.own p (List.mem_append_left _ hp)).1
    · exact ⟨(g1.own p hp).1, fun h => (g1.own p hp).2 h.1⟩
  · rw [List.map_append, List.nodup_append]
    refine ⟨hnd.1, g1.nodup, fun a ha b hb e => ?_⟩
    subst e
    obtain ⟨p, hp, rfl⟩ := List.mem_map.1 hb
    exact (g1.own p hp).2 (hB _ ha)
  · refine ⟨g3.os, g3.tape, g3.output, g3.size, fun b hb hn => g3.block b hb (fun hm => hn ?_), fun b hb => ⟨g3.imUp b (.inl hb), fun hm => ?_⟩, fun b hb => ?_, fun b hb => ?_, g3.sl, g3.dr⟩
    · rw [List.map_append]; exact List.mem_append_right _ hm
    · obtain ⟨p, hp, rfl⟩ := List.mem_map.1 hm
      exact (hs.own p (List.mem_append_left _ hp)).2 hb
    · rcases g3.imNew b hb.1 with (h | h) | h | h
      · exact .inl h
      · exact absurd h hb.2
      · exact .inr (.inl (by rw [List.map_append]; exact List.mem_append_right _ h))
      · exact .inr (.inr h)
    · rw [List.map_append] at hb ⊢
      rcases List.mem_append.1 hb with h | h
      · exact .inl (List.mem_append_left _ h)
      · exact (g3.hNew b h).imp (List.mem_append_right _) id
structure KeyT (P : Program) (kt : TypeId) {K : Type} [DecidableEq K] (kv : K → Value) : Prop where
  ok : ∀ k, gS_ P kt (kv k)
  nf : ∀ (k : K) (es : List MapEntry) (ks : List K), es.map (·.key) = ks.map kv → k ∉ ks → eg_ P kt (kv k) es none
  sf : ∀ (k : K) (es : List MapEntry) (ks : List K) (i : Nat) (e : MapEntry), es.map (·.key) = ks.map kv → ks.Nodup → ks[i]? = some k → es[i]? = some e → eg_ P kt (kv k) es (some (i, e.val))
  same : ∀ k, Instr.sameBits 10000 (kv k) (kv k) = true
section
variable {P : Program}
theorem jx_ (a b : List UInt8) : ((⟨a.toArray⟩ : ByteArray) == ⟨b.toArray⟩) = decide (a = b) := by
  show (a.toArray == b.toArray) = _
  rw [Bool.eq_iff_iff]
  simp
theorem pb_ {kt : TypeId} (hu : P.underlying kt = some .string) : KeyT P kt str where
  ok := fun k e w => by
    have key : ∀ m, (Instr.checkKey e (m + 1) kt (str k)).run P w = .ok () w := fun m => by simp [Instr.checkKey, run_underlying hu, str]
    exact key 9999
  nf := fun k es ks h hk => gL_ hu (by
    have : ∀ (ks : List Str) (es : List MapEntry) (i : Nat), es.map (·.key) = ks.map str → k ∉ ks → Instr.findNow .string (str k) es i = some none := by
      intro ks
      induction ks with
      | nil => intro es i h _; have : es = [] := by simpa using h
               subst this; rfl
      | cons q ks ih =>
        intro es i h hk
        cases es with
        | nil => simp at h
        | cons e es =>
          simp only [List.map_cons, List.cons.injEq] at h
          simp only [List.mem_cons, not_or] at hk
          have hs : Instr.sameNow .string (str k) e.key = some false := by
            rw [h.1]
            show some ((⟨k.toArray⟩ : ByteArray) == ⟨q.toArray⟩) = some false
            rw [jx_, decide_eq_false hk.1]
          simp only [Instr.findNow, hs]
          exact ih es (i + 1) h.2 hk.2
    exact this ks es 0 h hk)
  sf := fun k es ks i e h hn hi he => gL_ hu (by
    have : ∀ (ks : List Str) (es : List MapEntry) (j i : Nat), es.map (·.key) = ks.map str → ks.Nodup → ks[i]? = some k → es[i]? = some e → Instr.findNow .string (str k) es j = some (some (j + i, e.val)) := by
      intro ks
      induction ks with
      | nil => intro es j i _ _ h; simp at h
      | cons q ks ih =>
        intro es j i h hn hi he
        cases es with
        | nil => simp at h
        | cons x es =>
          simp only [List.map_cons, List.cons.injEq] at h
          rw [List.nodup_cons] at hn
          cases i with
          | zero =>
            simp only [List.getElem?_cons_zero, Option.some.injEq] at hi he
            subst hi; subst he
            have hs : Instr.sameNow .string (str q) x.key = some true := by
              rw [h.1]
              show some ((⟨q.toArray⟩ : ByteArray) == ⟨q.toArray⟩) = some true
              rw [jx_, decide_eq_true rfl]
            simp only [Instr.findNow, hs, Nat.add_zero]
          | succ i =>
            simp only [List.getElem?_cons_succ] at hi he
            have hne : k ≠ q := fun e => hn.1 (e ▸ List.mem_of_getElem? hi)
            have hs : Instr.sameNow .string (str k) x.key = some false := by
              rw [h.1]
              show some ((⟨k.toArray⟩ : ByteArray) == ⟨q.toArray⟩) = some false
              rw [jx_, decide_eq_false hne]
            simp only [Instr.findNow, hs]
            rw [ih es (j + 1) i h.2 hn.2 hi he, show j + 1 + i = j + (i + 1) by omega]
    have := this ks es 0 i h hn hi he
    rwa [Nat.zero_add] at this)
  same := fun k => by
    have key : ∀ m, Instr.sameBits m (str k) (str k) = true := fun m => by
      cases m <;> (show ((⟨k.toArray⟩ : ByteArray) == ⟨k.toArray⟩) = true; rw [jx_, decide_eq_true rfl])
    exact key 10000
theorem fo_ {K : Type} [DecidableEq K] {kt : TypeId} {fs : Array Field} {kv : K → Value} (hu : P.underlying kt = some (.struct fs)) (hok : ∀ k, gS_ P kt (kv k)) (heq : ∀ p q w, (Op.equal kt (kv p) (kv q)).run P w = .ok (decide (p = q)) w) (hsame : ∀ k, Instr.sameBits 10000 (kv k) (kv k) = true) : KeyT P kt kv where
  ok := hok
  nf := fun k es ks h hk => (kG_ hu heq k ks es h).1 hk
  sf := fun k es ks i e h hn hi he => by
    have key : ∀ (ks : List K) (es : List MapEntry) (j i : Nat), es.map (·.key) = ks.map kv → ks.Nodup → ks[i]? = some k → es[i]? = some e → ∀ w, (Instr.findAsking kt (kv k) es j).run P w = .ok (some (j + i, e.val)) w := by
      intro ks
      induction ks with
      | nil => intro es j i _ _ h; simp at h
      | cons q ks ih =>
        intro es j i h hn hi he w
        cases es with
        | nil => simp at h
        | cons x es =>
          simp only [List.map_cons, List.cons.injEq] at h
          rw [List.nodup_cons] at hn
          cases i with
          | zero =>
            simp only [List.getElem?_cons_zero, Option.some.injEq] at hi he
            subst hi; subst he
            simp only [Instr.findAsking, Sem.run_bind, h.1, heq, Result.andThen_ok, decide_true, if_true, Sem.run_pure, Nat.add_zero]
          | succ i =>
            simp only [List.getElem?_cons_succ] at hi he
            have hne : k ≠ q := fun e => hn.1 (e ▸ List.mem_of_getElem? hi)
            simp only [Instr.findAsking, Sem.run_bind, h.1, heq, Result.andThen_ok, hne, decide_false, Bool.false_eq_true, if_false]
            rw [ih es (j + 1) i h.2 hn.2 hi he w, show j + 1 + i = j + (i + 1) by omega]
    intro w
    have hnow : ∀ (x : MapEntry) (r : List MapEntry), Instr.findNow (.struct fs) (kv k) (x :: r) 0 = none := fun x r => by simp [Instr.findNow, Instr.sameNow]
    cases es with
    | nil => simp at he
    | cons x r =>
      simp only [Instr.findKey, Sem.run_bind, run_underlying hu, Result.andThen_ok, hnow]
      have := key ks (x :: r) 0 i h hn hi he w
      rwa [Nat.zero_add] at this
  same := hsame
end
theorem er_ (n : Nat) {k : IntKind} (i : Int) : Instr.sameBits n (.int k i) (.int k i) = true := by
  cases n <;> simp [Instr.sameBits]
theorem dC_ (n : Nat) (s : List UInt8) : Instr.sameBits n (str s) (str s) = true := by
  cases n <;> (show ((⟨s.toArray⟩ : ByteArray) == ⟨s.toArray⟩) = true; rw [jx_, decide_eq_true rfl])
theorem hq_ {n : Nat} {l : List Value} (h : ∀ v ∈ l, Instr.sameBits n v v = true) : Instr.sameBits (n + 1) (.agg l.toArray) (.agg l.toArray) = true := by
  simp only [Instr.sameBits, BEq.rfl, Bool.true_and, List.all_eq_true]
  intro p hp
  have : ∀ (l : List Value), (∀ v ∈ l, Instr.sameBits n v v = true) → ∀ p ∈ l.zip l, Instr.sameBits n p.1 p.2 = true := by
    intro l
    induction l with
    | nil => intro _ p hp; simp at hp
    | cons a l ih =>
      intro h p hp
      simp only [List.zip_cons_cons, List.mem_cons] at hp
      rcases hp with rfl | hp
      · exact h a (by simp)
      · exact ih (fun v hv => h v (by simp [hv])) p hp
  exact this l h p hp
structure Born (es : Array MapEntry) (c : Nat) : Prop where
  lt : ∀ x ∈ es.toList, x.born < c
  nd : (es.toList.map (·.born)).Nodup
theorem Born.nil (c : Nat) : Born #[] c := ⟨by simp, by simp⟩
theorem Born.push {es : Array MapEntry} {c : Nat} (h : Born es c) (key val : Value) : Born (es.push ⟨key, val, c⟩) (c + 1) := by
  refine ⟨fun x hx => ?_, ?_⟩
  · rw [Array.toList_push, List.mem_append] at hx
    rcases hx with hx | hx
    · exact Nat.lt_succ_of_lt (h.lt x hx)
    · rw [List.mem_singleton] at hx; rw [hx]; exact Nat.lt_succ_self _
  · rw [Array.toList_push, List.map_append, List.nodup_append]
    refine ⟨h.nd, by simp, fun a ha b hb e => ?_⟩
    obtain ⟨x, hx, rfl⟩ := List.mem_map.1 ha
    simp at hb
    have := h.lt x hx
    omega
theorem Born.modify {es : Array MapEntry} {c : Nat} (h : Born es c) (i : Nat) (f : MapEntry → MapEntry) (hf : ∀ e, (f e).born = e.born) : Born (es.modify i f) c := by
  have hb : (es.modify i f).toList.map (·.born) = es.toList.map (·.born) := by
    apply List.ext_getElem?
    intro j
    simp only [List.getElem?_map, Array.getElem?_toList, Array.getElem?_modify]
    split
    · cases es[j]? <;> simp [hf]
    · rfl
  refine ⟨fun x hx => ?_, by rw [hb]; exact h.nd⟩
  have : x.born ∈ (es.modify i f).toList.map (·.born) := List.mem_map_of_mem hx
  rw [hb] at this
  obtain ⟨y, hy, e⟩ := List.mem_map.1 this
  rw [← e]; exact h.lt y hy
theorem Born.find {es : Array MapEntry} {c i : Nat} {x : MapEntry} (h : Born es c) (hx : es[i]? = some x) : es.findIdx? (fun e => (e.born : Int) == (x.born : Int)) = some i := by
  rw [Array.findIdx?_eq_some_iff_getElem]
  obtain ⟨hi, rfl⟩ := Array.getElem?_eq_some_iff.1 hx
  refine ⟨hi, by simp, fun j hj => ?_⟩
  simp only [beq_eq_false_iff_ne, ne_eq, Bool.not_eq_true]
  intro e
  have hji : j < es.size := Nat.lt_trans hj hi
  have := h.nd
  rw [List.nodup_iff_pairwise_ne, List.pairwise_iff_getElem] at this
  have := this j i (by simpa using hji) (by simpa using hi) hj
  simp at this
  exact this (by exact_mod_cast e)
section
variable {K D : Type} [DecidableEq K] (kv : K → Value) (cells : D → List Value) (e : TypeId) (sz : Nat) (l : List (K × D))
def fJ_ : List K → List MapEntry → Hp → Prop
  | [], [], H => H = []
  | k :: ks, x :: es, H => ∃ Hk Hr, H = Hk ++ Hr ∧ x.key = kv k ∧ aQ_ e sz x.val (lat l k).length ((lat l k).flatMap cells) Hk ∧ fJ_ ks es Hr
  | _, _, _ => False
def dO_ (mb : Nat) (H : Hp) : Prop := ∃ ks es c Hr, H = (mb, .map es c) :: Hr ∧ ks.Nodup ∧ (∀ x ∈ l, x.1 ∈ ks) ∧ fJ_ kv cells e sz l ks es.toList Hr ∧ Born es c
end
section
variable {K D : Type} [DecidableEq K] {kv : K → Value} {cells : D → List Value} {e : TypeId} {sz : Nat} {l : List (K × D)}
theorem fJ_.keys : ∀ {ks : List K} {es : List MapEntry} {H : Hp}, fJ_ kv cells e sz l ks es H → es.map (·.key) = ks.map kv
  | [], [], _, _ => rfl
  | k :: ks, x :: es, _, h => by
    obtain ⟨Hk, Hr, _, h1, _, h2⟩ := h
    simp [h1, h2.keys]
  | [], _ :: _, _, h => h.elim
  | _ :: _, [], _, h => h.elim
theorem fJ_.congr {l' : List (K × D)} : ∀ {ks : List K} {es : List MapEntry} {H : Hp}, (∀ k ∈ ks, lat l' k = lat l k) → fJ_ kv cells e sz l ks es H → fJ_ kv cells e sz l' ks es H
  | [], [], _, _, h => h
  | k :: ks, x :: es, _, hl, h => by
    obtain ⟨Hk, Hr, h0, h1, h2, h3⟩ := h
    exact ⟨Hk, Hr, h0, h1, by rw [hl k (by simp)]; exact h2, h3.congr fun q hq => hl q (by simp [hq])⟩
  | [], _ :: _, _, _, h => h.elim
  | _ :: _, [], _, _, h => h.elim
theorem fJ_.get : ∀ {ks : List K} {es : List MapEntry} {H : Hp} {i : Nat} {k : K}, fJ_ kv cells e sz l ks es H → ks.Nodup → ks[i]? = some k → ∃ x Hk Hr, es[i]? = some x ∧ H.Perm (Hk ++ Hr) ∧ x.key = kv k ∧ aQ_ e sz x.val (lat l k).length ((lat l k).flatMap cells) Hk ∧
      ∀ (l' : List (K × D)) (y : MapEntry) (Hk' : Hp), y.key = kv k → (∀ q, q ≠ k → lat l' q = lat l q) → aQ_ e sz y.val (lat l' k).length ((lat l' k).flatMap cells) Hk' → ∃ H', fJ_ kv cells e sz l' ks (es.set i y) H' ∧ H'.Perm (Hk' ++ Hr)
  | [], _, _, _, _, _, _, h => by simp at h
  | _ :: _, [], _, _, _, h, _, _ => h.elim
  | q :: ks, x :: es, H, 0, k, h, hn, hi => by
    simp only [List.getElem?_cons_zero, Option.some.injEq] at hi
    subst hi
    rw [List.nodup_cons] at hn
    obtain ⟨Hk, Hr, h0, h1, h2, h3⟩ := h
    exact ⟨x, Hk, Hr, rfl, h0 ▸ .refl _, h1, h2, fun l' y Hk' g1 g2 g3 => ⟨Hk' ++ Hr, ⟨Hk', Hr, rfl, g1, g3, h3.congr fun z hz => g2 z (fun e => hn.1 (e ▸ hz))⟩, .refl _⟩⟩
  | q :: ks, x :: es, H, i + 1, k, h, hn, hi => by
    simp only [List.getElem?_cons_succ] at hi
    rw [List.nodup_cons] at hn
    obtain ⟨Hq, Ho, h0, h1, h2, h3⟩ := h
    obtain ⟨y, Hk, Hr, i1, i2, i3, i4, i5⟩ := h3.get hn.2 hi
    have hne : q ≠ k := fun e => hn.1 (e ▸ List.mem_of_getElem? hi)
    refine ⟨y, Hk, Hq ++ Hr, i1, ?_, i3, i4, fun l' z Hk' g1 g2 g3 => ?_⟩
    · rw [h0]
      refine (List.Perm.append_left Hq i2).trans ?_
      rw [← List.append_assoc, ← List.append_assoc]
      exact List.perm_append_comm.append_right _
    · obtain ⟨H', j1, j2⟩ := i5 l' z Hk' g1 g2 g3
      refine ⟨Hq ++ H', ⟨Hq, H', rfl, h1, by rw [g2 q hne]; exact h2, j1⟩, (List.Perm.append_left Hq j2).trans ?_⟩
      rw [← List.append_assoc, ← List.append_assoc]
      exact List.perm_append_comm.append_right _
theorem fJ_.push : ∀ {ks : List K} {es : List MapEntry} {H : Hp} {k : K} {x : MapEntry} {Hk : Hp}, fJ_ kv cells e sz l ks es H → x.key = kv k → aQ_ e sz x.val (lat l k).length ((lat l k).flatMap cells) Hk → fJ_ kv cells e sz l (ks ++ [k]) (es ++ [x]) (H ++ Hk)
  | [], [], _, k, x, Hk, h, h1, h2 => by subst h; exact ⟨Hk, [], by simp, h1, h2, rfl⟩
  | q :: ks, y :: es, _, k, x, Hk, h, h1, h2 => by
    obtain ⟨Hq, Hr, rfl, g1, g2, g3⟩ := h
    exact ⟨Hq, Hr ++ Hk, by simp, g1, g2, g3.push h1 h2⟩
  | [], _ :: _, _, _, _, _, h, _, _ => h.elim
  | _ :: _, [], _, _, _, _, h, _, _ => h.elim
theorem gH_ {k q : K} {d : D} (h : q ≠ k) : lat (l ++ [(k, d)]) q = lat l q := by
  rw [iZ_]; simp [lat, Ne.symm h]
theorem dh_ {k : K} {d : D} : lat (l ++ [(k, d)]) k = lat l k ++ [d] := by
  rw [iZ_]; simp [lat]
theorem dO_.open {P : Program} {kt : TypeId} (hK : KeyT P kt kv) {mb : Nat} {H : Hp} (h : dO_ kv cells e sz l mb H) (k : K) :
    ∃ es c sv Hk Hr, H.Perm ((mb, .map es c) :: (Hk ++ Hr)) ∧ aQ_ e sz sv (lat l k).length ((lat l k).flatMap cells) Hk ∧
      ((eg_ P kt (kv k) es.toList none ∧ sv = .slice none 0 0 ∧ ∀ d sv' Hk', aQ_ e sz sv' (lat (l ++ [(k, d)]) k).length ((lat (l ++ [(k, d)]) k).flatMap cells) Hk' → ∃ H', dO_ kv cells e sz (l ++ [(k, d)]) mb H' ∧ H'.Perm ((mb, .map (es.push ⟨kv k, sv', c⟩) (c + 1)) :: (Hk' ++ Hr))) ∨
       (∃ i x, eg_ P kt (kv k) es.toList (some (i, sv)) ∧ es[i]? = some x ∧ x.key = kv k ∧ x.val = sv ∧ ∀ d sv' Hk', aQ_ e sz sv' (lat (l ++ [(k, d)]) k).length ((lat (l ++ [(k, d)]) k).flatMap cells) Hk' → ∃ H', dO_ kv cells e sz (l ++ [(k, d)]) mb H' ∧ H'.Perm ((mb, .map (es.modify i fun y => { y with key := kv k, val := sv' }) c) :: (Hk' ++ Hr)))) := by
  obtain ⟨ks, es, c, Ho, rfl, hn, hl, hm, hbn⟩ := h
  by_cases hk : k ∈ ks
  · obtain ⟨i, hi⟩ := List.getElem?_of_mem hk
    obtain ⟨x, Hk, Hr, g1, g2, g3, g4, g5⟩ := hm.get hn hi
    have hx : es[i]? = some x := by rw [← Array.getElem?_toList]; exact g1
    refine ⟨es, c, x.val, Hk, Hr, .cons _ g2, g4, .inr ⟨i, x, hK.sf k es.toList ks i x hm.keys hn hi g1, hx, g3, rfl, fun d sv' Hk' hs => ?_⟩⟩
    obtain ⟨H', j1, j2⟩ := g5 (l ++ [(k, d)]) { x with key := kv k, val := sv' } Hk' rfl (fun q hq => gH_ hq) hs
    refine ⟨(mb, .map (es.modify i fun y => { y with key := kv k, val := sv' }) c) :: H', ⟨ks, _, c, H', rfl, hn, fun y hy => ?_, ?_, hbn.modify i _ fun _ => rfl⟩, .cons _ j2⟩
    · rcases List.mem_append.1 hy with hy | hy
      · exact hl y hy
      · simp at hy; rw [hy]; exact hk
    · have e1 : (es.modify i fun y => { y with key := kv k, val := sv' }).toList = es.toList.set i { x with key := kv k, val := sv' } := by
        apply List.ext_getElem?
        intro j
        rw [Array.getElem?_toList, Array.getElem?_modify, List.getElem?_set, Array.getElem?_toList]
        by_cases hij : i = j
        · subst hij
          have hlt : i < es.toList.length := (List.getElem?_eq_some_iff.1 g1).1
          simp only [if_true, hx, Option.map_some, if_pos hlt]
        · simp [hij]
      rw [e1]; exact j1
  · have hlat : lat l k = [] := by
      apply List.eq_nil_iff_forall_not_mem.2
      intro d hd
      exact hk (hl _ (di_.1 hd))
    refine ⟨es, c, .slice none 0 0, [], Ho, .refl _, by rw [hlat]; exact aQ_.nil _ _, .inl ⟨hK.nf k es.toList ks hm.keys hk, rfl, fun d sv' Hk' hs => ?_⟩⟩
    refine ⟨(mb, .map (es.push ⟨kv k, sv', c⟩) (c + 1)) :: (Ho ++ Hk'), ⟨ks ++ [k], _, _, _, rfl, ?_, fun y hy => ?_, ?_, hbn.push _ _⟩, .cons _ List.perm_append_comm⟩
    · rw [List.nodup_append]; exact ⟨hn, by simp, fun a ha b hb e => by simp at hb; subst hb; subst e; exact hk ha⟩
    · rcases List.mem_append.1 hy with hy | hy
      · exact List.mem_append_left _ (hl y hy)
      · simp at hy; simp [hy]
    · rw [Array.toList_push]
      exact (hm.congr fun q hq => gH_ (fun (e : q = k) => hk (e ▸ hq))).push rfl hs
structure MOpn (kv : K → Value) (cells : D → List Value) (e : TypeId) (sz : Nat) (l : List (K × D)) (mb : Nat) (k : K) (es : Array MapEntry) (c i : Nat) (st : Int) (Hr : Hp) : Prop where
  find : es.findIdx? (fun x => (x.born : Int) == st) = some i
  close : ∀ d sv' Hk', aQ_ e sz sv' (lat (l ++ [(k, d)]) k).length ((lat (l ++ [(k, d)]) k).flatMap cells) Hk' → ∃ H', dO_ kv cells e sz (l ++ [(k, d)]) mb H' ∧ H'.Perm ((mb, .map (es.modify i fun y => { y with val := sv' }) c) :: (Hk' ++ Hr))
theorem mo_ {es : Array MapEntry} {i : Nat} {x : MapEntry} {key : Value} (hx : es[i]? = some x) (hk : x.key = key) : (es.modify i fun y => { y with key := key }) = es := by
  apply Array.ext_getElem?
  intro j
  rw [Array.getElem?_modify]
  by_cases hij : i = j
  · subst hij; rw [if_pos rfl, hx]; simp only [Option.map_some]; rw [← hk]
  · rw [if_neg hij]
theorem dO_.entry {P : Program} {kt : TypeId} (hK : KeyT P kt kv) {mb : Nat} {H : Hp} (h : dO_ kv cells e sz l mb H) (k : K) :
    ∃ es c es' c' i st sv Hk Hr, H.Perm ((mb, .map es c) :: (Hk ++ Hr)) ∧ aQ_ e sz sv (lat l k).length ((lat l k).flatMap cells) Hk ∧ MOpn kv cells e sz l mb k es' c' i st Hr ∧
      ((eg_ P kt (kv k) es.toList none ∧ sv = .slice none 0 0 ∧ es' = es.push ⟨kv k, .slice none 0 0, c⟩ ∧ c' = c + 1 ∧ st = (c : Int)) ∨ (∃ j x, eg_ P kt (kv k) es.toList (some (j, sv)) ∧ es[j]? = some x ∧ x.key = kv k ∧ es' = es ∧ c' = c ∧ st = (x.born : Int))) := by
  have h0 := h
  obtain ⟨ks, es, c, Ho, rfl, hn, hl, hm, hbn⟩ := h0
  by_cases hk : k ∈ ks
  · obtain ⟨i, hi⟩ := List.getElem?_of_mem hk
    obtain ⟨x, Hk, Hr, g1, g2, g3, g4, g5⟩ := hm.get hn hi
    have hx : es[i]? = some x := by rw [← Array.getElem?_toList]; exact g1
    refine ⟨es, c, es, c, i, x.born, x.val, Hk, Hr, .cons _ g2, g4, ⟨hbn.find hx, fun d sv' Hk' hs => ?_⟩, .inr ⟨i, x, hK.sf k es.toList ks i x hm.keys hn hi g1, hx, g3, rfl, rfl, rfl⟩⟩
    obtain ⟨H', j1, j2⟩ := g5 (l ++ [(k, d)]) { x with key := kv k, val := sv' } Hk' rfl (fun q hq => gH_ hq) hs
    refine ⟨(mb, .map (es.modify i fun y => { y with val := sv' }) c) :: H', ⟨ks, _, c, H', rfl, hn, fun y hy => ?_, ?_, hbn.modify i _ fun _ => rfl⟩, .cons _ j2⟩
    · rcases List.mem_append.1 hy with hy | hy
      · exact hl y hy
      · simp at hy; rw [hy]; exact hk
    · have e1 : (es.modify i fun y => { y with val := sv' }).toList = es.toList.set i { x with key := kv k, val := sv' } := by
        apply List.ext_getElem?
        intro j
        rw [Array.getElem?_toList, Array.getElem?_modify, List.getElem?_set, Array.getElem?_toList]
        by_cases hij : i = j
        · subst hij
          have hlt : i < es.toList.length := (List.getElem?_eq_some_iff.1 g1).1
          simp only [if_true, hx, Option.map_some, if_pos hlt]
          rw [← g3]
        · simp [hij]
      rw [e1]; exact j1
  · have hlat : lat l k = [] := by
      apply List.eq_nil_iff_forall_not_mem.2
      intro d hd
      exact hk (hl _ (di_.1 hd))
    have hb2 := hbn.push (kv k) (.slice none 0 0)
    have hget : (es.push ⟨kv k, .slice none 0 0, c⟩)[es.size]? = some ⟨kv k, .slice none 0 0, c⟩ := by simp
    refine ⟨es, c, es.push ⟨kv k, .slice none 0 0, c⟩, c + 1, es.size, (c : Int), .slice none 0 0, [], Ho, .refl _, by rw [hlat]; exact aQ_.nil _ _, ⟨hb2.find hget, fun d sv' Hk' hs => ?_⟩, .inl ⟨hK.nf k es.toList ks hm.keys hk, rfl, rfl, rfl, rfl⟩⟩
    have e2 : ((es.push ⟨kv k, .slice none 0 0, c⟩).modify es.size fun y => { y with val := sv' }) = es.push ⟨kv k, sv', c⟩ := by
      apply Array.ext_getElem?
      intro j
      rw [Array.getElem?_modify, Array.getElem?_push, Array.getElem?_push]
      by_cases hj : j = es.size
      · subst hj; simp
      · rw [if_neg (fun q => hj q.symm), if_neg hj, if_neg hj]
    rw [e2]
    refine ⟨(mb, .map (es.push ⟨kv k, sv', c⟩) (c + 1)) :: (Ho ++ Hk'), ⟨ks ++ [k], _, _, _, rfl, ?_, fun y hy => ?_, ?_, hbn.push _ _⟩, .cons _ List.perm_append_comm⟩
    · rw [List.nodup_append]; exact ⟨hn, by simp, fun a ha b hb e => by simp at hb; subst hb; subst e; exact hk ha⟩
    · rcases List.mem_append.1 hy with hy | hy
      · exact List.mem_append_left _ (hl y hy)
      · simp at hy; simp [hy]
    · rw [Array.toList_push]
      exact (hm.congr fun q hq => gH_ (fun (e : q = k) => hk (e ▸ hq))).push rfl hs
theorem dO_.nil (mb : Nat) (c : Nat) : dO_ kv cells e sz ([] : List (K × D)) mb [(mb, .map #[] c)] := ⟨[], #[], c, [], rfl, List.nodup_nil, by simp, rfl, Born.nil c⟩
def mlF (P : Program) (kt : TypeId) (kv : K → Value) (cells : D → List Value) (mb : Nat) (l : List (K × D)) (adr : K → Option Addr × Nat) : Fct where
  p := fun v => v.im mb ∧ ∃ es c, v.w.heap[mb]? = some (.map es c) ∧ ∀ k, bv_ v (adr k).1 ((lat l k).flatMap cells) ∧
    ((eg_ P kt (kv k) es.toList none ∧ Value.slice (adr k).1 (lat l k).length (adr k).2 = .slice none 0 0) ∨ ∃ i, eg_ P kt (kv k) es.toList (some (i, .slice (adr k).1 (lat l k).length (adr k).2)))
  mono := fun v v' h ⟨h1, es, c, h2, h3⟩ => ⟨h.imUp mb h1, es, c, by rw [h.block mb h1]; exact h2, fun k => ⟨(az_ _ _).mono v v' h (h3 k).1, (h3 k).2⟩⟩
theorem bO_ {P : Program} {kt : TypeId} {mb : Nat} {adr : K → Option Addr × Nat} {v : Vw} (h : (mlF P kt kv cells mb l adr).p v) (k : K) : bv_ v (adr k).1 ((lat l k).flatMap cells) := by
  obtain ⟨_, _, _, _, h⟩ := h
  exact (h k).1
theorem nr_ {sv : Value} {n : Nat} {xs : List Value} {Hr : Hp} {v : Vw} (h : aQ_ e sz sv n xs Hr) (hv : ∀ p ∈ Hr, v.im p.1 ∧ v.w.heap[p.1]? = some p.2) : ∃ ad cap, sv = .slice ad n cap ∧ n ≤ cap ∧ cap ≤ maxLen ∧ (n ≠ 0 → ∃ b, ad = some ⟨b, 0, none⟩) ∧ bv_ v ad xs := by
  rcases h.2 with ⟨rfl, rfl, rfl⟩ | ⟨g, cap, cur, rfl, rfl, h3, h4, h5, h6⟩
  · have : xs = [] := List.eq_nil_of_length_eq_zero (by simpa using h.1)
    exact ⟨none, 0, rfl, Nat.le_refl _, by simp [maxLen], fun h => absurd rfl h, .inl this⟩
  · obtain ⟨g1, g2⟩ := hv _ (List.mem_singleton.2 rfl)
    refine ⟨some ⟨g, 0, none⟩, cap, rfl, h3, h4, fun _ => ⟨g, rfl⟩, .inr ⟨g, 0, cur, e, (0, 0), rfl, g1, g2, fun j x hj => ?_⟩⟩
    rw [← h6, List.getElem?_take] at hj
    split at hj
    · rw [Nat.zero_add, ← Array.getElem?_toList]; exact hj
    · cases hj
theorem dO_.lent {P : Program} {kt : TypeId} (hK : KeyT P kt kv) {mb : Nat} {H : Hp} (h : dO_ kv cells e sz l mb H) : ∃ adr, ∀ v : Vw, (∀ p ∈ H, v.im p.1 ∧ v.w.heap[p.1]? = some p.2) → (mlF P kt kv cells mb l adr).p v := by
  have h0 := h
  obtain ⟨ks, es, c, Ho, rfl, hn, hl, hm, _⟩ := h0
  have key : ∀ k, ∃ q : Option Addr × Nat, ∀ v : Vw, (∀ p ∈ (mb, Obj.map es c) :: Ho, v.im p.1 ∧ v.w.heap[p.1]? = some p.2) → bv_ v q.1 ((lat l k).flatMap cells) ∧ ((eg_ P kt (kv k) es.toList none ∧ Value.slice q.1 (lat l k).length q.2 = .slice none 0 0) ∨ ∃ i, eg_ P kt (kv k) es.toList (some (i, .slice q.1 (lat l k).length q.2))) := fun k => by
    by_cases hk : k ∈ ks
    · obtain ⟨i, hi⟩ := List.getElem?_of_mem hk
      obtain ⟨x, Hk, Hr, g1, g2, g3, g4, _⟩ := hm.get hn hi
      have hf := hK.sf k es.toList ks i x hm.keys hn hi g1
      have hsl : ∃ ad cap, x.val = .slice ad (lat l k).length cap := by
        rcases g4.2 with ⟨q1, q2, _⟩ | ⟨g, cap, cur, q1, _⟩
        · exact ⟨none, 0, by rw [q1, q2]⟩
        · exact ⟨_, cap, q1⟩
      obtain ⟨ad, cap, hx⟩ := hsl
      refine ⟨(ad, cap), fun v hv => ⟨?_, .inr ⟨i, by rw [← hx]; exact hf⟩⟩⟩
      obtain ⟨ad', cap', e1, _, _, _, hr⟩ := nr_ g4 fun p hp => hv p (List.mem_cons_of_mem _ (g2.mem_iff.2 (List.mem_append_left _ hp)))
      rw [hx] at e1
      simp only [Value.slice.injEq] at e1
      rw [e1.1]; exact hr
    · have hlat : lat l k = [] := by
        apply List.eq_nil_iff_forall_not_mem.2
        intro d hd
        exact hk (hl _ (di_.1 hd))
      exact ⟨(none, 0), fun v hv => ⟨.inl (by rw [hlat]; rfl), .inl ⟨hK.nf k es.toList ks hm.keys hk, by rw [hlat]; rfl⟩⟩⟩
  refine ⟨fun k => (key k).choose, fun v hv => ?_⟩
  obtain ⟨g1, g2⟩ := hv _ List.mem_cons_self
  exact ⟨g1, es, c, g2, fun k => (key k).choose_spec v hv⟩
end
section
variable {P : Program} {K : Type} [DecidableEq K] {kv : K → Value} {kt : TypeId}
structure SetE (kv : K → Value) (es : Array MapEntry) (q : List K) : Prop where
  keys : es.toList.map (·.key) = q.map kv
  vals : ∀ x ∈ es.toList, x.val = .bool true
  nd : q.Nodup
theorem SetE.nil : SetE kv #[] ([] : List K) := ⟨rfl, by simp, List.nodup_nil⟩
theorem SetE.size {es : Array MapEntry} {q : List K} (h : SetE kv es q) : es.size = q.length := by
  have := congrArg List.length h.keys
  simpa using this
theorem SetE.yes (hK : KeyT P kt kv) {es : Array MapEntry} {q : List K} (h : SetE kv es q) {k : K} (hk : k ∈ q) : ∃ i x, q[i]? = some k ∧ es[i]? = some x ∧ x.key = kv k ∧ x.val = .bool true ∧ eg_ P kt (kv k) es.toList (some (i, .bool true)) := by
  obtain ⟨i, hi⟩ := List.getElem?_of_mem hk
  have hlt : i < es.toList.length := by
    have := (List.getElem?_eq_some_iff.1 hi).1
    have e := congrArg List.length h.keys
    simp at e this ⊢; omega
  have hx := List.getElem?_eq_getElem hlt
  have hv := h.vals _ (List.getElem_mem hlt)
  have hkey : es.toList[i].key = kv k := by
    have := congrArg (fun l => l[i]?) h.keys
    simp only [List.getElem?_map, hx, hi, Option.map_some, Option.some.injEq] at this
    exact this
  refine ⟨i, es.toList[i], hi, by rw [← Array.getElem?_toList]; exact hx, hkey, hv, ?_⟩
  have := hK.sf k es.toList q i _ h.keys h.nd hi hx
  rwa [hv] at this
theorem SetE.no (hK : KeyT P kt kv) {es : Array MapEntry} {q : List K} (h : SetE kv es q) {k : K} (hk : k ∉ q) : eg_ P kt (kv k) es.toList none := hK.nf k es.toList q h.keys hk
theorem SetE.push {es : Array MapEntry} {q : List K} (h : SetE kv es q) {k : K} (hk : k ∉ q) (c : Nat) : SetE kv (es.push ⟨kv k, .bool true, c⟩) (q ++ [k]) := by
  refine ⟨by simp [h.keys], fun x hx => ?_, ?_⟩
  · rw [Array.toList_push, List.mem_append] at hx
    rcases hx with hx | hx
    · exact h.vals x hx
    · simp at hx; rw [hx]
  · rw [List.nodup_append]; exact ⟨h.nd, by simp, fun a ha b hb e => by simp at hb; subst hb; subst e; exact hk ha⟩
end
section ops
variable {P : Program} {N : Nat} {v0 : Vw} {H0 : Hp} {R : Exit → Act → World → Prop} {Kk : List Kt} {fr : Fr} {H : Hp} {Γ : List Fct}
variable {ops : Array Oper} {lo : List Oper} {d : Nat} {ty : TypeId} {ps : String} {af : Array Edge}
variable {K D : Type} [DecidableEq K] {kv : K → Value} {cells : D → List Value}
theorem cx_ {t kt et : TypeId} {x y : Operand} {mb : Nat} {l : List (K × D)} {adr : K → Option Addr × Nat} {k : K} (hK : KeyT P kt kv) (hu : ∀ w, (underlying t).run P w = .ok (.map kt et) w) (hz : ∀ w, (zeroValue et).run P w = .ok (.slice none 0 0) w) (hx : Fr.ev fr x = some (.map (some mb))) (hy : Fr.ev fr y = some (kv k))
    (hm : ∀ v, v.sat H → bd_ Γ v → (mlF P kt kv cells mb l adr).p v) : Yld P N fr H Γ (.lookup t x y false) ty (.slice (adr k).1 (lat l k).length (adr k).2) :=
  fun a v h1 h2 h4 _ _ _ => by
    obtain ⟨_, es, c, g1, g2⟩ := hm v h2 h4
    have hb := MapKept.run_getObj_map (P := P) g1
    rcases (g2 k).2 with ⟨q5, q6⟩ | ⟨i, q5⟩
    · rw [q6]; simp [execOp, h1.ev hx, h1.ev hy, Instr.lookup, hu, hb, hK.ok _ _ _, q5 _, hz]
    · simp [execOp, h1.ev hx, h1.ev hy, Instr.lookup, hu, hb, hK.ok _ _ _, q5 _]
theorem ej_ {t kt et : TypeId} {x y : Operand} {mb c : Nat} {es : Array MapEntry} {q : List K} {k : K} (hK : KeyT P kt kv) (hu : ∀ w, (underlying t).run P w = .ok (.map kt et) w) (hz : ∀ w, (zeroValue et).run P w = .ok (.bool false) w) (hx : Fr.ev fr x = some (.map (some mb))) (hy : Fr.ev fr y = some (kv k))
    (hq : SetE kv es q) (hm : ∀ v, v.sat H → bd_ Γ v → v.w.heap[mb]? = some (.map es c)) : Yld P N fr H Γ (.lookup t x y false) ty (.bool (decide (k ∈ q))) := by
  by_cases hk : k ∈ q
  · obtain ⟨i, _, _, _, _, _, hf⟩ := hq.yes hK hk
    rw [decide_eq_true hk]
    exact iw_ hu hx hy hm (hK.ok k) hf
  · rw [decide_eq_false hk]
    exact hh_ hu hz hx hy hm (hK.ok k) (hq.no hK hk)
theorem oe_ {t kt et : TypeId} {x : Operand} {mb c : Nat} {es : Array MapEntry} (hu : ∀ w, (underlying t).run P w = .ok (.map kt et) w) (hx : Fr.ev fr x = some (.map (some mb))) (hm : ∀ v, v.sat H → bd_ Γ v → v.w.heap[mb]? = some (.map es c)) :
    Yld P N fr H Γ (.call ⟨.builtin .len, #[x], #[t]⟩) ty (.int .i64 (es.size : Int)) :=
  fun a v h1 h2 h4 _ _ _ => by
    have hb := MapKept.run_getObj_map (P := P) (hm v h2 h4)
    simp [execOp, resolve, invoke, builtin, Builtin.len_, h1.ev hx, hu, hb, goInt]
theorem iQ_ {o : Op} {t kt et : TypeId} {x y z : Operand} {b c i : Nat} (n : Nat) {es : Array MapEntry} {e : MapEntry} {k : K} {u u' : Value} (hK : KeyT P kt kv) (ho : o = .insert t x y z ∨ o = .mapUpdate t x y z) (hu : ∀ w, (underlying t).run P w = .ok (.map kt et) w)
    (hx : Fr.ev fr x = some (.map (some b))) (hy : Fr.ev fr y = some (kv k)) (hz : Fr.ev fr z = some u) (hi : H[n]? = some (b, .map es c)) (hf : eg_ P kt (kv k) es.toList (some (i, u'))) (he : es[i]? = some e) (hek : e.key = kv k)
    (hkk : Ops P R N v0 H0 ops lo Kk fr (H.set n (b, .map (es.modify i fun y => { y with key := kv k, val := u }) c)) Γ) : Ops P R N v0 H0 ops (⟨none, o, ty, ps, af, none⟩ :: lo) Kk fr H Γ :=
  cZ_ rfl fun a v h1 h2 h3 h4 => by
    have hb := (h2.own _ (List.mem_of_getElem? hi)).1
    have hg := MapKept.run_getObj_map (P := P) hb
    have hs := MapKept.run_setObj_map (P := P) (.map (es.modify i fun y => { y with key := kv k, val := u }) c) hb
    have he : (execOp a.eval ⟨none, o, ty, ps, af, none⟩).run P v.w = .ok .skip { v.w with heap := v.w.heap.setIfInBounds b (.map (es.modify i fun y => { y with key := kv k, val := u }) c) } := by
      rcases ho with rfl | rfl <;> simp [execOp, h1.ev hx, h1.ev hy, h1.ev hz, Instr.mapUpdate, hu, hg, hK.ok _ _ _, hf _, hs, Instr.keyThatStays, he, hek, hK.same]
    unfold Oper.wp
    rw [he]
    have hh := MapKept.heap_set (o' := .map (es.modify i fun y => { y with key := kv k, val := u }) c) hb
    obtain ⟨g1, g2⟩ := hp_ (w' := { v.w with heap := v.w.heap.setIfInBounds b (.map (es.modify i fun y => { y with key := kv k, val := u }) c) }) h2 hi rfl rfl rfl (Nat.le_refl _) (by simp) hh.1 (fun k hk => hh.2 k hk)
    exact hkk a _ h1 g1 (h3.trans g2) (ck_ (g2.le h2) h4)
theorem lG_ {es : Array MapEntry} {i : Nat} {e : MapEntry} {key val : Value} (he : es[i]? = some e) (hk : e.key = key) (hv : e.val = val) : (es.modify i fun y => { y with key := key, val := val }) = es := by
  apply Array.ext_getElem?
  intro j
  rw [Array.getElem?_modify]
  by_cases hij : i = j
  · subst hij; rw [if_pos rfl, he]; simp only [Option.map_some]; rw [← hk, ← hv]
  · rw [if_neg hij]
theorem fz_ {o : Op} {t kt et : TypeId} {x y z : Operand} {b c : Nat} (n : Nat) {es : Array MapEntry} {q : List K} {k : K} (hK : KeyT P kt kv) (ho : o = .insert t x y z ∨ o = .mapUpdate t x y z) (hu : ∀ w, (underlying t).run P w = .ok (.map kt et) w)
    (hx : Fr.ev fr x = some (.map (some b))) (hy : Fr.ev fr y = some (kv k)) (hz : Fr.ev fr z = some (.bool true)) (hi : H[n]? = some (b, .map es c)) (hq : SetE kv es q)
    (hkk : ∀ es' c', SetE kv es' (if k ∈ q then q else q ++ [k]) → Ops P R N v0 H0 ops lo Kk fr (H.set n (b, .map es' c')) Γ) : Ops P R N v0 H0 ops (⟨none, o, ty, ps, af, none⟩ :: lo) Kk fr H Γ := by
  by_cases hk : k ∈ q
  · obtain ⟨i, e, g1, g2, g3, g4, g5⟩ := hq.yes hK hk
    refine iQ_ n hK ho hu hx hy hz hi g5 g2 g3 ?_
    rw [lG_ g2 g3 g4]
    exact hkk es c (by rw [if_pos hk]; exact hq)
  · exact iT_ n ho hu hx hy hz hi (hK.ok k) (hq.no hK hk) (hkk _ _ (by rw [if_neg hk]; exact hq.push hk c))
theorem dF_ {t kt et : TypeId} {x y : Operand} {mb : Nat} {e : TypeId} {sz : Nat} {l : List (K × D)} {k : K} {Hm F : Hp} (hK : KeyT P kt kv) (hm : dO_ kv cells e sz l mb Hm) (hu : ∀ w, (underlying t).run P w = .ok (.map kt et) w) (hz : ∀ w, (zeroValue et).run P w = .ok (.slice none 0 0) w)
    (hx : Fr.ev fr x = some (.map (some mb))) (hy : Fr.ev fr y = some (kv k)) (hH : H.Perm (Hm ++ F)) (hN : Nat.blt d N = true)
    (hk : ∀ es c i st sv Hk Hr, MOpn kv cells e sz l mb k es c i st Hr → aQ_ e sz sv (lat l k).length ((lat l k).flatMap cells) Hk → Ops P R N v0 H0 ops lo Kk ((d, .tuple #[sv, .int .i64 st]) :: fr) ((mb, .map es c) :: (Hk ++ (Hr ++ F))) Γ) :
    Ops P R N v0 H0 ops (⟨some d, .mapEntry t x y, ty, ps, af, none⟩ :: lo) Kk fr H Γ := by
  obtain ⟨es, c, es', c', i, st, sv, Hk, Hr, p1, p2, p3, p4⟩ := hm.entry hK k
  refine cZ_ rfl fun a v h1 h2 h3 h4 => ?_
  have hp : H.Perm ((mb, .map es c) :: (Hk ++ (Hr ++ F))) := hH.trans (by
    have := p1.append_right F
    simpa [List.append_assoc] using this)
  have h2' := h2.perm hp
  have hb := (h2'.own _ List.mem_cons_self).1
  have hg := MapKept.run_getObj_map (P := P) hb
  have he : (execOp a.eval ⟨some d, .mapEntry t x y, ty, ps, af, none⟩).run P v.w = .ok (.value (.tuple #[sv, .int .i64 st])) { v.w with heap := v.w.heap.setIfInBounds mb (.map es' c') } := by
    rcases p4 with ⟨q1, rfl, rfl, rfl, rfl⟩ | ⟨j, z, q1, q2, q3, rfl, rfl, rfl⟩
    · have hs := MapKept.run_setObj_map (P := P) (.map (es.push ⟨kv k, .slice none 0 0, c⟩) (c + 1)) hb
      simp [execOp, h1.ev hx, h1.ev hy, Instr.mapEntry, hu, hg, hK.ok _ _ _, q1 _, hz, hs, goInt]
    · have hs := MapKept.run_setObj_map (P := P) (.map es' c') hb
      simp [execOp, h1.ev hx, h1.ev hy, Instr.mapEntry, hu, hg, hK.ok _ _ _, q1 _, Instr.keyThatStays, q2, q3, hK.same, mo_ q2 q3, hs, goInt]
  unfold Oper.wp
  rw [he]
  have hh := MapKept.heap_set (o' := .map es' c') hb
  obtain ⟨g1, g2⟩ := hp_ (i := 0) (o' := .map es' c') (w' := { v.w with heap := v.w.heap.setIfInBounds mb (.map es' c') }) h2' rfl rfl rfl rfl (Nat.le_refl _) (by simp) hh.1 (fun k hk => hh.2 k hk)
  simp only [List.set_cons_zero] at g1 g2
  exact hk es' c' i st sv Hk Hr p3 p2 _ _ (h1.put hN) g1 (h3.trans (g2.permL hp.symm)) (ck_ (g2.le h2') h4)
theorem cd_ {t : TypeId} {x y z : Operand} {mb c i : Nat} {e : TypeId} {sz : Nat} {l : List (K × D)} {k : K} {dd : D} {es : Array MapEntry} {st : Int} {sv : Value} {Hk Hr F : Hp} (ho : MOpn kv cells e sz l mb k es c i st Hr) (hr : aQ_ e sz sv (lat (l ++ [(k, dd)]) k).length ((lat (l ++ [(k, dd)]) k).flatMap cells) Hk)
    (hx : Fr.ev fr x = some (.map (some mb))) (hy : Fr.ev fr y = some (.int .i64 st)) (hz : Fr.ev fr z = some sv) (hH : H.Perm ((mb, .map es c) :: (Hk ++ (Hr ++ F))))
    (hk : ∀ H', dO_ kv cells e sz (l ++ [(k, dd)]) mb H' → Ops P R N v0 H0 ops lo Kk fr (H' ++ F) Γ) : Ops P R N v0 H0 ops (⟨none, .entryStore t x y z, ty, ps, af, none⟩ :: lo) Kk fr H Γ := by
  obtain ⟨H', q1, q2⟩ := ho.close dd sv Hk hr
  refine cZ_ rfl fun a v h1 h2 h3 h4 => ?_
  have h2' := h2.perm hH
  have hb := (h2'.own _ List.mem_cons_self).1
  have hg := MapKept.run_getObj_map (P := P) hb
  have hs := MapKept.run_setObj_map (P := P) (.map (es.modify i fun y => { y with val := sv }) c) hb
  have he : (execOp a.eval ⟨none, .entryStore t x y z, ty, ps, af, none⟩).run P v.w = .ok .skip { v.w with heap := v.w.heap.setIfInBounds mb (.map (es.modify i fun y => { y with val := sv }) c) } := by
    have hf := ho.find
    simp [execOp, h1.ev hx, h1.ev hy, h1.ev hz, Instr.entryStore, hg, hs, asInt, asIntOf, hf]
  unfold Oper.wp
  rw [he]
  have hh := MapKept.heap_set (o' := .map (es.modify i fun y => { y with val := sv }) c) hb
  obtain ⟨g1, g2⟩ := hp_ (i := 0) (o' := .map (es.modify i fun y => { y with val := sv }) c) (w' := { v.w with heap := v.w.heap.setIfInBounds mb (.map (es.modify i fun y => { y with val := sv }) c) }) h2' rfl rfl rfl rfl (Nat.le_refl _) (by simp) hh.1 (fun k hk => hh.2 k hk)
  simp only [List.set_cons_zero] at g1 g2
  have pp : ((mb, Obj.map (es.modify i fun y => { y with val := sv }) c) :: (Hk ++ (Hr ++ F))).Perm (H' ++ F) := by
    have := (q2.append_right F).symm
    simpa [List.append_assoc] using this
  exact hk H' q1 _ _ h1 (g1.perm pp) (h3.trans ((g2.permL hH.symm).subR fun b hb => ((pp.map Prod.fst).mem_iff).2 hb)) (ck_ (g2.le h2') h4)
def MOp (P : Program) (kt : TypeId) (kv : K → Value) (cells : D → List Value) (e : TypeId) (sz : Nat) (l : List (K × D)) (mb : Nat) (k : K) (es : Array MapEntry) (c : Nat) (sv : Value) (Hr : Hp) : Prop :=
  (eg_ P kt (kv k) es.toList none ∧ sv = .slice none 0 0 ∧ ∀ d sv' Hk', aQ_ e sz sv' (lat (l ++ [(k, d)]) k).length ((lat (l ++ [(k, d)]) k).flatMap cells) Hk' → ∃ H', dO_ kv cells e sz (l ++ [(k, d)]) mb H' ∧ H'.Perm ((mb, .map (es.push ⟨kv k, sv', c⟩) (c + 1)) :: (Hk' ++ Hr))) ∨
  (∃ i x, eg_ P kt (kv k) es.toList (some (i, sv)) ∧ es[i]? = some x ∧ x.key = kv k ∧ x.val = sv ∧ ∀ d sv' Hk', aQ_ e sz sv' (lat (l ++ [(k, d)]) k).length ((lat (l ++ [(k, d)]) k).flatMap cells) Hk' → ∃ H', dO_ kv cells e sz (l ++ [(k, d)]) mb H' ∧ H'.Perm ((mb, .map (es.modify i fun y => { y with key := kv k, val := sv' }) c) :: (Hk' ++ Hr)))
theorem mX_ {k0 : Act → World → Prop} {kt : TypeId} {mb : Nat} {e : TypeId} {sz : Nat} {l : List (K × D)} {Hm F : Hp} (hK : KeyT P kt kv) (k : K) (hm : dO_ kv cells e sz l mb Hm) (hH : H.Perm (Hm ++ F))
    (h : ∀ es c sv Hk Hr, aQ_ e sz sv (lat l k).length ((lat l k).flatMap cells) Hk → MOp P kt kv cells e sz l mb k es c sv Hr → Ok N v0 H0 k0 fr ((mb, .map es c) :: (Hk ++ (Hr ++ F))) Γ) : Ok N v0 H0 k0 fr H Γ := by
  obtain ⟨es, c, sv, Hk, Hr, p1, p2, p3⟩ := hm.open hK k
  refine aj_ (hH.trans (by
    have := p1.append_right F
    simpa [List.append_assoc] using this)) (h es c sv Hk Hr p2 p3)
theorem gz_ {t kt et : TypeId} {x y : Operand} {mb c : Nat} {e : TypeId} {sz : Nat} {l : List (K × D)} {k : K} {es : Array MapEntry} {sv : Value} {Hr : Hp} (hK : KeyT P kt kv) (ho : MOp P kt kv cells e sz l mb k es c sv Hr) (hu : ∀ w, (underlying t).run P w = .ok (.map kt et) w) (hz : ∀ w, (zeroValue et).run P w = .ok (.slice none 0 0) w)
    (hx : Fr.ev fr x = some (.map (some mb))) (hy : Fr.ev fr y = some (kv k)) (i : Nat) (hi : H[i]? = some (mb, .map es c)) : Yld P N fr H Γ (.lookup t x y false) ty sv := by
  have hm : ∀ v, v.sat H → bd_ Γ v → v.w.heap[mb]? = some (.map es c) := fun v h _ => (h.own _ (List.mem_of_getElem? hi)).1
  rcases ho with ⟨h1, rfl, _⟩ | ⟨i, z, h1, _⟩
  · exact hh_ hu hz hx hy hm (hK.ok k) h1
  · exact iw_ hu hx hy hm (hK.ok k) h1
theorem fZ_ {o : Op} {t kt et : TypeId} {x y z : Operand} {mb c : Nat} {e : TypeId} {sz : Nat} {l : List (K × D)} {k : K} {dd : D} {es : Array MapEntry} {sv sv' : Value} {Hk Hr F : Hp} (hK : KeyT P kt kv) (ho : MOp P kt kv cells e sz l mb k es c sv Hr) (hr : aQ_ e sz sv' (lat (l ++ [(k, dd)]) k).length ((lat (l ++ [(k, dd)]) k).flatMap cells) Hk)
    (hop : o = .insert t x y z ∨ o = .mapUpdate t x y z) (hu : ∀ w, (underlying t).run P w = .ok (.map kt et) w) (hx : Fr.ev fr x = some (.map (some mb))) (hy : Fr.ev fr y = some (kv k)) (hz : Fr.ev fr z = some sv') (hH : H.Perm ((mb, .map es c) :: (Hk ++ (Hr ++ F))))
    (hk : ∀ H', dO_ kv cells e sz (l ++ [(k, dd)]) mb H' → Ops P R N v0 H0 ops lo Kk fr (H' ++ F) Γ) : Ops P R N v0 H0 ops (⟨none, o, ty, ps, af, none⟩ :: lo) Kk fr H Γ := by
  refine aj_ hH ?_
  rcases ho with ⟨h1, _, h2⟩ | ⟨i, q, h1, h3, h4, _, h2⟩
  · obtain ⟨H', q1, q2⟩ := h2 dd sv' Hk hr
    refine iT_ 0 hop hu hx hy hz rfl (hK.ok k) h1 ?_
    simp only [List.set_cons_zero]
    exact aj_ (by have := (q2.append_right F).symm; simpa [List.append_assoc] using this) (hk H' q1)
  · obtain ⟨H', q1, q2⟩ := h2 dd sv' Hk hr
    refine iQ_ 0 hK hop hu hx hy hz rfl h1 h3 h4 ?_
    simp only [List.set_cons_zero]
    exact aj_ (by have := (q2.append_right F).symm; simpa [List.append_assoc] using this) (hk H' q1)
theorem dg_ {b : Nat × Obj} {O Q F : Hp} (h : H.Perm ((b :: (O ++ Q)) ++ F)) : H.Perm (b :: (O ++ (Q ++ F))) := by simpa [List.append_assoc] using h
theorem df_ {b : Nat × Obj} {F : Hp} (h : H.Perm ([b] ++ F)) : H.Perm (b :: F) := h
theorem bu_ {b : Nat × Obj} {F F' : Hp} (h : H.Perm ([b] ++ F)) (h2 : F.Perm F') : H.Perm (b :: F') := List.Perm.trans h (h2.cons b)
theorem jV_ {fn : Func} {Rr : Ending → World → Prop} {c : Code} (h : Run P (bodyPost P fn Rr) N v0 H0 c [] fr H Γ) : Run P (bodyPost P fn Rr) N v0 H0 (.scope c) [] fr H Γ :=
  fun a v h1 h2 h3 h4 => wp_scope_straight (wp_mono (h a v h1 h2 h3 h4) fun e a w hq => by cases e <;> exact hq)
theorem jW_ {c : Nat} (h : Fin P R N v0 H0 Kk fr H Γ) : Run P R N v0 H0 (.label c) Kk fr H Γ :=
  fun a v h1 h2 h3 h4 => wp_label (h a v h1 h2 h3 h4)
end ops
end Go.Sx
namespace Go.Sx
open Go
section
variable {P : Program} {N : Nat} {v0 : Vw} {H0 : Hp} {R : Exit → Act → World → Prop} {K : List Kt} {fr : Fr} {H F : Hp} {Γ : List Fct} {ops : Array Oper} {l : List Oper} {d : Nat} {ty : TypeId} {ps : String} {af : Array Edge} {e : TypeId} {sz n : Nat} {sv : Value} {xs : List Value} {Hr : Hp}
theorem mm_ {t kt et : TypeId} {x : Operand} {k : IntKind} {m : Int} (hu : ∀ w, (underlying t).run P w = .ok (.map kt et) w) (hx : Fr.ev fr x = some (.int k m)) (hN : Nat.blt d N = true) (hk : ∀ b, Ops P R N v0 H0 ops l K ((d, .map (some b)) :: fr) ((b, .map #[] 0) :: H) Γ) :
    Ops P R N v0 H0 ops (⟨some d, .makeMap t (some x), ty, ps, af, none⟩ :: l) K fr H Γ :=
  fY_ (x := fun b => .map (some b)) hN (fun a v h1 _ _ => by simp [execOp, Instr.makeMap, newObj, hu, h1.ev hx, asInt, asIntOf]; rfl) hk
theorem lB_ {x y : Operand} {t tn : TypeId} {by' : Nat} {k kn : IntKind} (he : Elt P t e sz by') (htn : P.underlying tn = some (.int kn)) (hx : Fr.ev fr x = some (.slice none 0 0)) (hy : Fr.ev fr y = some (.int k (n : Int))) (h0 : 0 < n) (hb : n * by' ≤ 140737488355328) (h63 : n ≤ maxLen) (hN : Nat.blt d N = true)
    (hk : ∀ (y : Nat × Array Value) (b : Nat), (n ≤ y.1 ∧ y.1 ≤ maxLen ∧ y.2.size = y.1 * sz) → Ops P R N v0 H0 ops l K ((d, .slice (some ⟨b, 0, none⟩) n y.1) :: fr) ((b, .cells y.2 e (0, 0)) :: H) Γ) :
    Ops P R N v0 H0 ops (⟨some d, .call ⟨.builtin .append, #[x, y], #[t, tn]⟩, ty, ps, af, none⟩ :: l) K fr H Γ :=
  iS_ (β := Nat × Array Value) (x := fun y b => .slice (some ⟨b, 0, none⟩) n y.1) (o := fun y => .cells y.2 e (0, 0)) (fun y => n ≤ y.1 ∧ y.1 ≤ maxLen ∧ y.2.size = y.1 * sz) hN
    (fun a v h1 h2 h4 => by
      obtain ⟨i, z, hi, hz, es, eb, ez⟩ := he.info
      subst es eb
      have hr := Lib.run_append_nil_zeros (P := P) v.w t tn ty e i z k kn he.und htn hi hz n h0 he.pos (by simp only [maxLen] at h63; omega) (by omega)
      have h1' := grownCap_ge v.w n 0 e
      have h2' := grownCap_le_maxLen v.w n 0 e h63
      refine ⟨(grownCap v.w n 0 e, Builtin.zeroCells z.cells n ++ Builtin.zeroCells z.cells (grownCap v.w n 0 e - n)), v.w.drew.alloc (.cells (Builtin.zeroCells z.cells n ++ Builtin.zeroCells z.cells (grownCap v.w n 0 e - n)) e), ⟨h1', h2', ?_⟩, ?_, rfl, rfl, rfl, rfl, by simp⟩
      · simp only [Array.size_append, size_zeroCells, ez, ← Nat.add_mul]
        congr 1
        omega
      · simp only [execOp, resolve, invoke, builtin, Sem.run_bind, Sem.run_pure, Result.andThen_ok, List.map_toArray, List.map_cons, List.map_nil, h1.ev hx, h1.ev hy, hr])
    hk
theorem kZ_ {x : Operand} {t : TypeId} {ad : Option Addr} {len cap : Nat} (hu : ∀ w, (underlying t).run P w = .ok (.slice e) w) (hx : Fr.ev fr x = some (.slice ad len cap)) :
    Yld P N fr H Γ (.call ⟨.builtin .cap, #[x], #[t]⟩) ty (.int .i64 (cap : Int)) :=
  fun a v h1 _ _ _ _ _ => by simp [execOp, resolve, invoke, builtin, Builtin.cap_, hu, h1.ev hx, goInt]
theorem nq_ {b cap : Nat} {cur : Array Value} (h1 : cap ≤ maxLen) (h2 : cur.size = cap * sz) : aQ_ e sz (.slice (some ⟨b, 0, none⟩) 0 cap) 0 [] [(b, .cells cur e (0, 0))] :=
  ⟨by simp, .inr ⟨b, cap, cur, rfl, rfl, Nat.zero_le _, h1, h2, by simp⟩⟩
end
end Go.Sx
namespace Go.Sx
open Go
theorem pc_ {P : Program} {kt : TypeId} {kd : IntKind} (hu : P.underlying kt = some (.int kd)) : KeyT P kt (fun n : Int => .int kd n) where
  ok := fun k => nJ_ hu
  nf := fun k es ks h hk => gL_ hu (by
    have : ∀ (ks : List Int) (es : List MapEntry) (i : Nat), es.map (·.key) = ks.map (fun n : Int => Value.int kd n) → k ∉ ks → Instr.findNow (.int kd) (.int kd k) es i = some none := by
      intro ks
      induction ks with
      | nil => intro es i h _; have : es = [] := by simpa using h
               subst this; rfl
      | cons q ks ih =>
        intro es i h hk
        cases es with
        | nil => simp at h
        | cons e es =>
          simp only [List.map_cons, List.cons.injEq] at h
          simp only [List.mem_cons, not_or] at hk
          have hs : Instr.sameNow (.int kd) (.int kd k) e.key = some false := by
            rw [h.1]; simp [Instr.sameNow, hk.1]
          simp only [Instr.findNow, hs]
          exact ih es (i + 1) h.2 hk.2
    exact this ks es 0 h hk)
  sf := fun k es ks i e h hn hi he => gL_ hu (by
    have : ∀ (ks : List Int) (es : List MapEntry) (j i : Nat), es.map (·.key) = ks.map (fun n : Int => Value.int kd n) → ks.Nodup → ks[i]? = some k → es[i]? = some e → Instr.findNow (.int kd) (.int kd k) es j = some (some (j + i, e.val)) := by
      intro ks
      induction ks with
      | nil => intro es j i _ _ h; simp at h
      | cons q ks ih =>
        intro es j i h hn hi he
        cases es with
        | nil => simp at h
        | cons x es =>
          simp only [List.map_cons, List.cons.injEq] at h
          rw [List.nodup_cons] at hn
          cases i with
          | zero =>
            simp only [List.getElem?_cons_zero, Option.some.injEq] at hi he
            subst hi; subst he
            have hs : Instr.sameNow (.int kd) (.int kd q) x.key = some true := by
              rw [h.1]; simp [Instr.sameNow]
            simp only [Instr.findNow, hs, Nat.add_zero]
          | succ i =>
            simp only [List.getElem?_cons_succ] at hi he
            have hne : k ≠ q := fun e => hn.1 (e ▸ List.mem_of_getElem? hi)
            have hs : Instr.sameNow (.int kd) (.int kd k) x.key = some false := by
              rw [h.1]; simp [Instr.sameNow, hne]
            simp only [Instr.findNow, hs]
            rw [ih es (j + 1) i h.2 hn.2 hi he, show j + 1 + i = j + (i + 1) by omega]
    have := this ks es 0 i h hn hi he
    rwa [Nat.zero_add] at this)
  same := fun k => er_ 10000 k
end Go.Sx
namespace Go.Sx
open Go
section
variable {P : Program} {N : Nat} {v0 : Vw} {H0 : Hp} {R : Exit → Act → World → Prop} {Kk : List Kt} {fr : Fr} {H : Hp} {Γ : List Fct}
variable {ops : Array Oper} {lo : List Oper} {d : Nat} {ty : TypeId} {ps : String} {af : Array Edge}
variable {K : Type} [DecidableEq K] {kv : K → Value}
structure ItS (kv : K → Value) (es : Array MapEntry) (seen : Array Nat) (done : List K) : Prop where
  nd : done.Nodup
  mem : ∀ e ∈ es.toList, seen.contains e.born = true ↔ ∃ k ∈ done, e.key = kv k
  sub : ∀ k ∈ done, ∃ e ∈ es.toList, e.key = kv k
theorem ItS.nil {es : Array MapEntry} : ItS kv es #[] [] := ⟨List.nodup_nil, fun e _ => by simp, fun k hk => by simp at hk⟩
theorem SetE.entry {es : Array MapEntry} {q : List K} (hE : SetE kv es q) (hi : ∀ x y, kv x = kv y → x = y) {x e : MapEntry} (hx : x ∈ es.toList) (he : e ∈ es.toList) (h : x.key = e.key) : x = e := by
  obtain ⟨i, hi1, hi2⟩ := List.getElem_of_mem hx
  obtain ⟨j, hj1, hj2⟩ := List.getElem_of_mem he
  have hl := congrArg List.length hE.keys
  simp only [List.length_map] at hl
  have key : ∀ (k : Nat) (hk : k < es.toList.length), es.toList[k].key = kv (q[k]'(by omega)) := fun k hk => by
    have := congrArg (fun l => l[k]?) hE.keys
    simp only [List.getElem?_map] at this
    rw [List.getElem?_eq_getElem hk, List.getElem?_eq_getElem (by omega)] at this
    simpa using this
  have e1 := key i hi1
  have e2 := key j hj1
  rw [hi2] at e1
  rw [hj2] at e2
  have e3 := hi _ _ (e1.symm.trans (h.trans e2))
  have hij : i = j := by
    rcases Nat.lt_trichotomy i j with h1 | h1 | h1
    · exact absurd e3 (List.pairwise_iff_getElem.1 hE.nd i j (by omega) (by omega) h1)
    · exact h1
    · exact absurd e3.symm (List.pairwise_iff_getElem.1 hE.nd j i (by omega) (by omega) h1)
  subst hij
  rw [← hi2, ← hj2]
theorem SetE.ofKey {es : Array MapEntry} {q : List K} (hE : SetE kv es q) {e : MapEntry} (he : e ∈ es.toList) : ∃ k ∈ q, e.key = kv k := by
  have : e.key ∈ es.toList.map (·.key) := List.mem_map_of_mem he
  rw [hE.keys] at this
  obtain ⟨k, hk, h⟩ := List.mem_map.1 this
  exact ⟨k, hk, h.symm⟩
theorem ItS.step {es : Array MapEntry} {q : List K} {c : Nat} {seen : Array Nat} {done : List K} {e : MapEntry} (hi : ∀ x y, kv x = kv y → x = y) (hE : SetE kv es q) (hB : Born es c) (h : ItS kv es seen done) (he : e ∈ (leftOf es seen).toList) :
    ∃ k, k ∈ q ∧ k ∉ done ∧ e.key = kv k ∧ e ∈ es.toList ∧ ItS kv es (seen.push e.born) (done ++ [k]) := by
  unfold leftOf at he
  rw [Array.toList_filter, List.mem_filter] at he
  obtain ⟨h1, h2⟩ := he
  obtain ⟨k, hk, hkv⟩ := hE.ofKey h1
  have hnd : k ∉ done := fun hm => by
    have := (h.mem e h1).2 ⟨k, hm, hkv⟩
    rw [this] at h2
    simp at h2
  refine ⟨k, hk, hnd, hkv, h1, ⟨?_, fun x hx => ?_, fun y hy => ?_⟩⟩
  · rw [List.nodup_append]; exact ⟨h.nd, by simp, fun a ha b hb e => by simp at hb; subst hb; subst e; exact hnd ha⟩
  · rw [Array.contains_push, Bool.or_eq_true, h.mem x hx, beq_iff_eq]
    constructor
    · rintro (⟨y, hy, hyv⟩ | h3)
      · exact ⟨y, by simp [hy], hyv⟩
      · have : x = e := by
          have hn := hB.nd
          obtain ⟨i, hi1, hi2⟩ := List.getElem_of_mem hx
          obtain ⟨j, hj1, hj2⟩ := List.getElem_of_mem h1
          have hij : i = j := by
            rcases Nat.lt_trichotomy i j with g | g | g
            · exact ((List.pairwise_iff_getElem.1 hn i j (by simpa using hi1) (by simpa using hj1) g) (by simp only [List.getElem_map, hi2, hj2, h3])).elim
            · exact g
            · exact ((List.pairwise_iff_getElem.1 hn j i (by simpa using hj1) (by simpa using hi1) g) (by simp only [List.getElem_map, hi2, hj2, h3])).elim
          subst hij
          rw [← hi2, ← hj2]
        exact ⟨k, by simp, this ▸ hkv⟩
    · rintro ⟨y, hy, hyv⟩
      rcases List.mem_append.1 hy with hy | hy
      · exact .inl ⟨y, hy, hyv⟩
      · rw [List.mem_singleton] at hy
        subst hy
        exact .inr (congrArg MapEntry.born (hE.entry hi hx h1 (hyv.trans hkv.symm)))
  · rcases List.mem_append.1 hy with hy | hy
    · exact h.sub y hy
    · rw [List.mem_singleton] at hy
      subst hy
      exact ⟨e, h1, hkv⟩
theorem ItS.end {es : Array MapEntry} {q : List K} {seen : Array Nat} {done : List K} (hi : ∀ x y, kv x = kv y → x = y) (hE : SetE kv es q) (h : ItS kv es seen done) (h0 : (leftOf es seen).size = 0) : done.Perm q := by
  refine (List.perm_ext_iff_of_nodup h.nd hE.nd).2 fun k => ⟨fun hk => ?_, fun hk => ?_⟩
  · obtain ⟨e, he, hkv⟩ := h.sub k hk
    obtain ⟨k', hk', hkv'⟩ := hE.ofKey he
    exact hi _ _ (hkv.symm.trans hkv') ▸ hk'
  · have : kv k ∈ es.toList.map (·.key) := by rw [hE.keys]; exact List.mem_map_of_mem hk
    obtain ⟨e, he, hkv⟩ := List.mem_map.1 this
    have hs : seen.contains e.born = true := by
      cases hc : seen.contains e.born
      · exfalso
        have : e ∈ (leftOf es seen).toList := by unfold leftOf; rw [Array.toList_filter, List.mem_filter]; exact ⟨he, by simp only [hc]; rfl⟩
        have h1 := List.length_pos_of_mem this
        simp only [Array.length_toList] at h1
        omega
      · rfl
    obtain ⟨k', hk', hkv'⟩ := (h.mem e he).1 hs
    exact hi _ _ (hkv.symm.trans hkv') ▸ hk'
end
section
variable {P : Program} {N : Nat} {v0 : Vw} {H0 : Hp} {R : Exit → Act → World → Prop} {K : List Kt} {fr : Fr} {H F : Hp} {Γ : List Fct}
end
section
variable {Fc : Fence} {n : Nat} {P : Program} {N : Nat} {D : List Deferred} {v0 : Vw} {H0 : Hp} {R : Exit → Act → World → Prop} {K : List Kt} {fr : Fr} {H : Hp} {Γ : List Fct}
variable {ops : Array Oper} {l : List Oper} {d : Nat} {ty : TypeId} {ps : String} {af : Array Edge}
end
end Go.Sx
namespace Go.Vs
open Go Go.Sx
def Ky.cells (k : Ky) : List Value := [.int .i64 k.kind, str k.role, str k.atom]
theorem Ky.cells_len (k : Ky) : k.cells.length = 3 := rfl
def Ky.val (k : Ky) : Value := .agg k.cells.toArray
def lg_ (s : he_) : List Value := [str s.1, str s.2]
def gd_ (s : he_) : Value := .agg (lg_ s).toArray
def Ky.eqb (p q : Ky) : Bool := (p.kind == q.kind) && ((p.role == q.role) && ((p.atom == q.atom) && true))
theorem Ky.eqb_eq (p q : Ky) : p.eqb q = decide (p = q) := by
  rw [Bool.eq_iff_iff]; cases p; cases q; simp [Ky.eqb]
def qC_ (p q : he_) : Bool := (p.1 == q.1) && ((p.2 == q.2) && true)
theorem or_ (p q : he_) : qC_ p q = decide (p = q) := by
  rw [Bool.eq_iff_iff]; cases p; cases q; simp [qC_]
theorem Fc.cells_one (p : Fc) : p.cells.all Value.oneCell' = true := rfl
end Go.Vs
namespace Go.Sx
open Go Go.Vs
structure Emt (P : Program) (tF : TypeId) where
  stp : Fc → List Fc → List Fc
  kof : List Fc → List Fc
  St : List Fc → List Fc → Hp → Prop
  fn : FuncId
  caps : List Value
  ef : Fct
  kb : Nat
  fb : Nat
  grows : Grows stp kof
  emit : ∀ f nw fm H, St nw fm H → Tri P fn (f.val :: caps).toArray H [ef] (fun _ : {H' : Hp // St (stp f nw) fm H'} => .tuple #[]) (fun y => y.1) (fun _ => [])
  known : ∀ {nw fm H}, St nw fm H → ∃ es c, (kb, Obj.map es c) ∈ H ∧ SetE Fc.val es (kof nw)
  firm : ∀ {nw fm H}, St nw fm H → ∃ es c q, (fb, Obj.map es c) ∈ H ∧ SetE Fc.val es q ∧ ∀ f, f ∈ q ↔ f ∈ fm
  setf : ∀ {nw fm H} (f : Fc), St nw fm H → ∃ es c q Hr, H.Perm ((fb, Obj.map es c) :: Hr) ∧ SetE Fc.val es q ∧ (∀ f, f ∈ q ↔ f ∈ fm) ∧ ∀ es' c', SetE Fc.val es' (if f ∈ q then q else q ++ [f]) → ∃ H', St nw (f :: fm) H' ∧ H'.Perm ((fb, Obj.map es' c') :: Hr)
section
variable {P : Program} {N : Nat} {v0 : Vw} {H0 : Hp} {R : Exit → Act → World → Prop} {K : List Kt} {fr : Fr} {H : Hp} {Γ : List Fct}
variable {ops : Array Oper} {l : List Oper} {d : Nat} {ty : TypeId} {ps : String} {af : Array Edge} {tF : TypeId} {E : Emt P tF} {nw fm : List Fc} {Hs F : Hp}
theorem iO_ {b : Nat} {o : Obj} {v : Vw} (hp : H.Perm (Hs ++ F)) (hm : (b, o) ∈ Hs) (h : v.sat H) : v.w.heap[b]? = some o := (h.own _ (hp.mem_iff.2 (List.mem_append_left _ hm))).1
theorem gB_ {t et : TypeId} {x y : Operand} {f : Fc} (hS : E.St nw fm Hs) (hK : KeyT P tF Fc.val) (hu : ∀ w, (underlying t).run P w = .ok (.map tF et) w) (hz : ∀ w, (zeroValue et).run P w = .ok (.bool false) w) (hx : Fr.ev fr x = some (.map (some E.kb))) (hy : Fr.ev fr y = some f.val) (hp : H.Perm (Hs ++ F)) :
    Yld P N fr H Γ (.lookup t x y false) ty (.bool (decide (f ∈ E.kof nw))) := by
  obtain ⟨es, c, g1, g2⟩ := E.known hS
  exact ej_ hK hu hz hx hy g2 fun v h _ => iO_ hp g1 h
theorem kY_ {t et : TypeId} {x y : Operand} {f : Fc} (hS : E.St nw fm Hs) (hK : KeyT P tF Fc.val) (hu : ∀ w, (underlying t).run P w = .ok (.map tF et) w) (hz : ∀ w, (zeroValue et).run P w = .ok (.bool false) w) (hx : Fr.ev fr x = some (.map (some E.fb))) (hy : Fr.ev fr y = some f.val) (hp : H.Perm (Hs ++ F)) :
    Yld P N fr H Γ (.lookup t x y false) ty (.bool (decide (f ∈ fm))) := by
  obtain ⟨es, c, q, g1, g2, g3⟩ := E.firm hS
  have := ej_ (P := P) (N := N) (H := H) (Γ := Γ) (ty := ty) hK hu hz hx hy g2 fun v h _ => iO_ hp g1 h
  have e : decide (f ∈ q) = decide (f ∈ fm) := by rw [decide_eq_decide]; exact g3 f
  rw [← e]; exact this
theorem oO_ {o : Op} {t et : TypeId} {x y z : Operand} {f : Fc} (hS : E.St nw fm Hs) (hK : KeyT P tF Fc.val) (ho : o = .insert t x y z ∨ o = .mapUpdate t x y z) (hu : ∀ w, (underlying t).run P w = .ok (.map tF et) w)
    (hx : Fr.ev fr x = some (.map (some E.fb))) (hy : Fr.ev fr y = some f.val) (hz : Fr.ev fr z = some (.bool true)) (hp : H.Perm (Hs ++ F))
    (hk : ∀ Hs', E.St nw (f :: fm) Hs' → Ops P R N v0 H0 ops l K fr (Hs' ++ F) Γ) : Ops P R N v0 H0 ops (⟨none, o, ty, ps, af, none⟩ :: l) K fr H Γ := by
  obtain ⟨es, c, q, Hr, p1, p2, p3, p4⟩ := E.setf f hS
  refine aj_ (H' := (E.fb, .map es c) :: (Hr ++ F)) (hp.trans (by have := p1.append_right F; simpa using this)) (fz_ 0 hK ho hu hx hy hz rfl p2 fun es' c' hs' => ?_)
  obtain ⟨H', q1, q2⟩ := p4 es' c' hs'
  simp only [List.set_cons_zero]
  exact aj_ (by have := (q2.append_right F).symm; simpa using this) (hk H' q1)
end
structure EngB where
  g : Nat
  pb : Nat
  ab : Nat
  ub : Nat
  ob : Nat
  ib : Nat
  rb : Nat
  sb : Nat
  lad : Option Addr
  lcap : Nat
  lps : List Str
structure EngA where
  p : Ky → Option Addr × Nat
  a : Str → Option Addr × Nat
  u : Str → Option Addr × Nat
  o : he_ → Option Addr × Nat
  i : he_ → Option Addr × Nat
  r : he_ → Option Addr × Nat
  s : he_ → Option Addr × Nat
def EngB.cells (B : EngB) {P : Program} {tF : TypeId} (E : Emt P tF) : List Value :=
  [.map (some B.pb), .slice B.lad B.lps.length B.lcap, .map (some E.kb), .func (.func E.fn) #[] E.caps.toArray, .map (some B.ab), .map (some B.ub), .map (some B.ob), .map (some B.ib), .map (some B.rb), .map (some B.sb), .map (some E.fb)]
structure IxH where
  a : Hp
  u : Hp
  o : Hp
  i : Hp
  r : Hp
  s : Hp
def IxO (tS tF : TypeId) (B : EngB) (x : Ix) (y : IxH) : Prop :=
  dO_ str aO_ tS 1 x.above B.ab y.a ∧ dO_ str aO_ tS 1 x.under B.ub y.u ∧ dO_ gd_ aO_ tS 1 x.frm B.ob y.o ∧ dO_ gd_ aO_ tS 1 x.into B.ib y.i ∧ dO_ gd_ Fc.cells tF 6 x.ranges B.rb y.r ∧ dO_ gd_ Fc.cells tF 6 x.firms B.sb y.s
end Go.Sx
namespace Go.Proofs.YtpdbbglpbngeiaaGreatDoor
open Go Go.Sx Go.Proofs
attribute [local irreducible] Code.wp wpList wpAnyH
open Go.Vs
theorem eqKy (p q : Ky) (w : World) : (Op.equalIn 10000 171 (Ky.val p) (Ky.val q)).run Tryz.prog w = .ok (decide (p = q)) w := by
  have h := run_equalIn_struct (P := Tryz.prog) w 9999 171 (Ky.cells p).toArray (Ky.cells q).toArray (by simp only [Program.fieldsOf, Tryz.underlying171]) Tryz.stoodInHeld171
  refine h.trans ?_
  rw [← Ky.eqb_eq]
  simp only [Program.fieldsOf, Tryz.underlying171]
  exact cq_ rfl P_ rfl rfl (eqI bS_ w) (cq_ rfl q_ rfl rfl (eqS bB_ w) (cq_ rfl q_ rfl rfl (eqS bB_ w) (ir_ w)))
theorem eqSpot (p q : he_) (w : World) : (Op.equalIn 10000 145 (gd_ p) (gd_ q)).run Tryz.prog w = .ok (decide (p = q)) w := by
  have h := run_equalIn_struct (P := Tryz.prog) w 9999 145 (lg_ p).toArray (lg_ q).toArray (by simp only [Program.fieldsOf, Tryz.underlying145]) Tryz.stoodInHeld145
  refine h.trans ?_
  rw [← or_]
  simp only [Program.fieldsOf, Tryz.underlying145]
  exact cq_ rfl q_ rfl rfl (eqS bB_ w) (cq_ rfl q_ rfl rfl (eqS bB_ w) (ir_ w))
theorem okKy (p : Ky) : gS_ Tryz.prog 171 (Ky.val p) := fun e w => by
  have hi : ∀ (n : Int) (w : World), (Instr.checkKey e (9998 + 1) 3 (.int .i64 n)).run Tryz.prog w = .ok () w := fun n w => MapKept.run_checkKey (d := .int .i64) bS_ (by simp [MapKept.IsKey]) e 9998
  have hs : ∀ (n : Str) (w : World), (Instr.checkKey e (9998 + 1) 9 (str n)).run Tryz.prog w = .ok () w := fun n w => MapKept.run_checkKey (d := .string) bB_ (by simp [MapKept.IsKey, str]) e 9998
  refine ckF (n := 9999) Tryz.underlying171 fun f hf => ?_
  simp only [List.mem_cons, List.not_mem_nil, or_false] at hf
  rcases hf with rfl | rfl | rfl
  · exact ⟨rfl, P_, _, rfl, hi _⟩
  · exact ⟨rfl, q_, _, rfl, hs _⟩
  · exact ⟨rfl, q_, _, rfl, hs _⟩
theorem okSpot (p : he_) : gS_ Tryz.prog 145 (gd_ p) := fun e w => by
  have hi : ∀ (n : Int) (w : World), (Instr.checkKey e (9998 + 1) 3 (.int .i64 n)).run Tryz.prog w = .ok () w := fun n w => MapKept.run_checkKey (d := .int .i64) bS_ (by simp [MapKept.IsKey]) e 9998
  have hs : ∀ (n : Str) (w : World), (Instr.checkKey e (9998 + 1) 9 (str n)).run Tryz.prog w = .ok () w := fun n w => MapKept.run_checkKey (d := .string) bB_ (by simp [MapKept.IsKey, str]) e 9998
  refine ckF (n := 9999) Tryz.underlying145 fun f hf => ?_
  simp only [List.mem_cons, List.not_mem_nil, or_false] at hf
  rcases hf with rfl | rfl
  · exact ⟨rfl, q_, _, rfl, hs _⟩
  · exact ⟨rfl, q_, _, rfl, hs _⟩
theorem okFc (p : Fc) : gS_ Tryz.prog 41 (Fc.val p) := fun e w => by
  have hi : ∀ (n : Int) (w : World), (Instr.checkKey e (9998 + 1) 3 (.int .i64 n)).run Tryz.prog w = .ok () w := fun n w => MapKept.run_checkKey (d := .int .i64) bS_ (by simp [MapKept.IsKey]) e 9998
  have hs : ∀ (n : Str) (w : World), (Instr.checkKey e (9998 + 1) 9 (str n)).run Tryz.prog w = .ok () w := fun n w => MapKept.run_checkKey (d := .string) bB_ (by simp [MapKept.IsKey, str]) e 9998
  refine ckF (n := 9999) Tryz.underlying41 fun f hf => ?_
  simp only [List.mem_cons, List.not_mem_nil, or_false] at hf
  rcases hf with rfl | rfl | rfl | rfl | rfl | rfl
  · exact ⟨rfl, P_, _, rfl, hi _⟩
  · exact ⟨rfl, q_, _, rfl, hs _⟩
  · exact ⟨rfl, q_, _, rfl, hs _⟩
  · exact ⟨rfl, q_, _, rfl, hs _⟩
  · exact ⟨rfl, P_, _, rfl, hi _⟩
  · exact ⟨rfl, P_, _, rfl, hi _⟩
theorem gf_ : KeyT Tryz.prog 171 Ky.val := fo_ (K := Ky) Tryz.underlying171 okKy (fun p q w => eqKy p q w) fun k => hq_ (l := Ky.cells k) fun v hv => by
  simp only [Ky.cells, List.mem_cons, List.not_mem_nil, or_false] at hv
  rcases hv with rfl | rfl | rfl
  · exact er_ _ _
  · exact dC_ _ _
  · exact dC_ _ _
theorem cX_ : KeyT Tryz.prog 145 gd_ := fo_ (K := he_) Tryz.underlying145 okSpot (fun p q w => eqSpot p q w) fun k => hq_ (l := lg_ k) fun v hv => by
  simp only [lg_, List.mem_cons, List.not_mem_nil, or_false] at hv
  rcases hv with rfl | rfl
  · exact dC_ _ _
  · exact dC_ _ _
theorem gr_ : KeyT Tryz.prog 41 Fc.val := fo_ (K := Fc) Tryz.underlying41 okFc (fun p q w => eqFc p q w) fun k => hq_ (l := Fc.cells k) fun v hv => by
  simp only [Fc.cells, List.mem_cons, List.not_mem_nil, or_false] at hv
  rcases hv with rfl | rfl | rfl | rfl | rfl | rfl
  · exact er_ _ _
  · exact dC_ _ _
  · exact dC_ _ _
  · exact dC_ _ _
  · exact er_ _ _
  · exact er_ _ _
theorem pd_ : KeyT Tryz.prog 47 Pc.val := fo_ (K := Pc) jN_ keyPc (fun p q w => eqPc p q w) fun k => hq_ (l := Pc.cells k) fun v hv => by
  simp only [Pc.cells, List.mem_cons, List.not_mem_nil, or_false] at hv
  rcases hv with rfl | rfl | rfl | rfl | rfl | rfl | rfl | rfl | rfl | rfl
  · exact er_ _ _
  · exact dC_ _ _
  · exact dC_ _ _
  · exact dC_ _ _
  · exact dC_ _ _
  · exact dC_ _ _
  · exact dC_ _ _
  · exact er_ _ _
  · exact er_ _ _
  · exact er_ _ _
theorem hu_ : KeyT Tryz.prog 9 str := pb_ bB_
theorem ca_ : Elt Tryz.prog 26 41 6 72 := ne_ Tryz.underlying26 (z := .agg #[.int .i64 0, str [], str [], str [], .int .i64 0, .int .i64 0]) (by kernel_rfl) rfl (by decide)
theorem ff_ : Elt Tryz.prog 22 47 10 128 := ne_ Tryz.underlying22 (z := .agg #[.int .i64 0, str [], str [], str [], str [], str [], str [], .int .i64 0, .int .i64 0, .int .i64 0]) (by kernel_rfl) rfl (by decide)
theorem cN_ : Elt Tryz.prog 25 9 1 16 := ne_ jO_ (z := .string ⟨#[]⟩) (by kernel_rfl) rfl (by decide)
theorem eq_ : kR_ Tryz.prog 171 [(0, 1), (1, 1), (2, 1)] [.int .i64 0, str [], str []] := ⟨_, Tryz.zeroValue171, Tryz.runUnderlying171, fun w => by simp [L_, j_]⟩
theorem eT_ : kR_ Tryz.prog 145 [(0, 1), (1, 1)] [str [], str []] := ⟨_, cK_, Tryz.runUnderlying145, fun w => by simp [j_]⟩
theorem strt94 : kR_ Tryz.prog 94 [(0, 1), (1, 1), (2, 1), (3, 1), (4, 1), (5, 1), (6, 1), (7, 1), (8, 1), (9, 1), (10, 1)] [.map none, .slice none 0 0, .map none, .nilFunc, .map none, .map none, .map none, .map none, .map none, .map none, .map none] := ⟨_, Tryz.zeroValue94, J_, fun w => by simp [da_, dy_, bW_, be_, hf_, dx_, qD_]⟩
theorem cn_ (s : Str) : (aO_ s).all Value.oneCell' = true := rfl
def gF (B : EngB) (E : Emt Tryz.prog 41) : Fct := eD_ B.g (.cells (B.cells E).toArray 94 (0, 0))
def pF (B : EngB) (pm : List (Ky × Pc)) (A : EngA) : Fct := mlF Tryz.prog 171 Ky.val Pc.cells B.pb pm A.p
def aF (B : EngB) (x : Ix) (A : EngA) : Fct := mlF Tryz.prog 9 str aO_ B.ab x.above A.a
def uF (B : EngB) (x : Ix) (A : EngA) : Fct := mlF Tryz.prog 9 str aO_ B.ub x.under A.u
def oF (B : EngB) (x : Ix) (A : EngA) : Fct := mlF Tryz.prog 145 gd_ aO_ B.ob x.frm A.o
def iF (B : EngB) (x : Ix) (A : EngA) : Fct := mlF Tryz.prog 145 gd_ aO_ B.ib x.into A.i
def rF (B : EngB) (x : Ix) (A : EngA) : Fct := mlF Tryz.prog 145 gd_ Fc.cells B.rb x.ranges A.r
def sF (B : EngB) (x : Ix) (A : EngA) : Fct := mlF Tryz.prog 145 gd_ Fc.cells B.sb x.firms A.s
end Go.Proofs.YtpdbbglpbngeiaaGreatDoor
namespace Go.Proofs.YtpdbbglpbngeiaaGreatDoor
open Go Go.Sx Go.Proofs
attribute [local irreducible] Code.wp wpList wpAnyH
open Go.Vs
theorem eu_ {α β : Type} {g : α → β} {l : List α} {i : Nat} {x : α} (h : l[i]? = some x) : List.map g (List.take (i + 1) l) = List.map g (List.take i l) ++ [g x] := by
  rw [List.take_add_one, h, Option.toList_some, List.map_append]; rfl
theorem fg_ (a b : Str) : Fn0 Tryz.prog 89 #[str a, str b] (Fc.val (an_ a b)) := by
  refine T_ Tryz.func89 rfl rfl Tryz.ntmps89 rfl fun v0 => ?_
  refine h_ (c_ (ao_ ak_ rfl fun b1 => ?_))
  refine e_ (b_ rfl (h_ (c_ (a_ (d_ rfl) rfl (a_ (d_ rfl) rfl (a_ (ap_ hL_ rfl rfl) rfl (Q_ 0 B_ rfl rfl rfl rfl rfl rfl (e_ (b_ rfl ?_)))))))))
  refine F_ ?_
  exact cH_ () (fun aa v h1 h2 => eB_ (us := Fc.cells (an_ a b)) 0 Tryz.results89 ai_ B_ rfl rfl rfl aa v h1 h2) I_ (fun _ _ _ => trivial)
theorem iY_ (a r b : Str) : Fn0 Tryz.prog 99 #[str a, str r, str b] (Fc.val (ax_ a r b)) := by
  refine T_ Tryz.func99 rfl rfl Tryz.ntmps99 rfl fun v0 => ?_
  refine h_ (c_ (ao_ ak_ rfl fun b1 => ?_))
  refine e_ (b_ rfl (h_ (c_ (a_ (d_ rfl) rfl (a_ (d_ rfl) rfl (a_ (d_ rfl) rfl (a_ (ap_ hL_ rfl rfl) rfl (Q_ 0 B_ rfl rfl rfl rfl rfl rfl (e_ ?_)))))))))
  refine b_ rfl (F_ ?_)
  exact cH_ () (fun aa v h1 h2 => eB_ (us := Fc.cells (ax_ a r b)) 0 Tryz.results99 ai_ B_ rfl rfl rfl aa v h1 h2) I_ (fun _ _ _ => trivial)
theorem mf_ (a r : Str) (lo hi : Int) : Fn0 Tryz.prog 90 #[str a, str r, .int .i64 lo, .int .i64 hi] (Fc.val (aP_ a r lo hi)) := by
  refine T_ Tryz.func90 rfl rfl Tryz.ntmps90 rfl fun v0 => ?_
  refine h_ (c_ (ao_ ak_ rfl fun b1 => ?_))
  refine e_ (b_ rfl (h_ (c_ (a_ (d_ rfl) rfl (a_ (d_ rfl) rfl (a_ (d_ rfl) rfl (a_ (d_ rfl) rfl (a_ (ap_ hL_ rfl rfl) rfl (Q_ 0 B_ rfl rfl rfl rfl rfl rfl ?_)))))))))
  refine e_ (b_ rfl (F_ ?_))
  exact cH_ () (fun aa v h1 h2 => eB_ (us := Fc.cells (aP_ a r lo hi)) 0 Tryz.results90 ai_ B_ rfl rfl rfl aa v h1 h2) I_ (fun _ _ _ => trivial)
theorem nU_ (B : EngB) (E : Emt Tryz.prog 41) (A : EngA) (pm : List (Ky × Pc)) (x : Ix) (f : Fc) (nw fm : List Fc) (Hs : Hp) (hS : E.St nw fm Hs) (hpl : ∀ k, (lat pm k).length ≤ 1000000000) (hxl : ∀ k, (lat x.above k).length ≤ 1000000000 ∧ (lat x.under k).length ≤ 1000000000) (hyl : ∀ k, (lat x.frm k).length ≤ 1000000000 ∧ (lat x.into k).length ≤ 1000000000 ∧ (lat x.ranges k).length ≤ 1000000000 ∧ (lat x.firms k).length ≤ 1000000000) : Tri Tryz.prog 100 #[zp_ B.g 0, Fc.val f] Hs [gF B E, pF B pm A, aF B x A, uF B x A, oF B x A, iF B x A, rF B x A, sF B x A, E.ef] (fun _ : {H' : Hp // E.St (emits E.stp (fH_ pm f) nw) fm H'} => .tuple #[]) (fun y => y.1) (fun _ => []) := by
  refine T_ Tryz.func100 rfl rfl Tryz.ntmps100 rfl fun v0 => ?_
  refine h_ (c_ (bs_ rfl rfl fun b1 => ?_))
  refine e_ (b_ rfl (h_ ?_))
  refine aS_ (by kernel_rfl) ?_
  refine ah_ 0 [0, 1, 2, 3, 4, 5, 6, 7, 8, 9] (by kernel_rfl) (fun _ a b => ⟨a, b⟩) (n_ rfl (d_ rfl) rfl (n_ rfl (ar_ rfl) rfl (n_ rfl (l_ J_ rfl rfl rfl dy_) rfl (n_ rfl (al_ ed_ rfl (fun v _ h => by exact h.1) rfl) rfl (n_ rfl (l_ o_ rfl rfl rfl j_) rfl (n_ rfl (u_ 0 q_ rfl rfl rfl) rfl (n_ rfl (ap_ eq_ rfl rfl) rfl (n_ rfl (cx_ (k := (Ky.mk 1 [] (Fc.b f))) (adr := A.p) gf_ ci_ cr_ rfl rfl (fun v _ h => by exact h.2.1)) rfl (n_ rfl (am_ A_ rfl) rfl ?_)))))))))
  refine n_ rfl (d_ rfl) rfl (ag_ (ac_ (by kernel_rfl) (b_ rfl (R_ ?_))))
  refine aL_ (ι := {y : Nat × Hp // y.1 ≤ List.length (lat pm (Ky.mk 1 [] (Fc.b f))) ∧ E.St (emits E.stp (List.map (fun y => an_ (Fc.a f) (Pc.c y)) (List.take y.1 (lat pm (Ky.mk 1 [] (Fc.b f))))) nw) fm y.2}) (fun y => [(0, zp_ B.g 0), (3, zp_ b1 0), (13, .slice (Prod.fst (A.p (Ky.mk 1 [] (Fc.b f)))) (List.length (lat pm (Ky.mk 1 [] (Fc.b f)))) (Prod.snd (A.p (Ky.mk 1 [] (Fc.b f))))), (14, .int .i64 (List.length (lat pm (Ky.mk 1 [] (Fc.b f))) : Int)), (15, .int .i64 (y.1.1 : Int))]) (fun y => ((b1, .cells (Fc.cells f).toArray 41 (0, 0)) :: y.1.2)) (fun y => [gF B E, pF B pm A, aF B x A, uF B x A, oF B x A, iF B x A, rF B x A, sF B x A, E.ef]) (fun y => List.length (lat pm (Ky.mk 1 [] (Fc.b f))) - y.1.1) ⟨((0 : Nat), Hs), by simp, by exact hS⟩ ⟨rfl, rfl, rfl, rfl, rfl, trivial⟩ (m_ i_ aD_) (fun _ _ h => h) ?_
  rintro ⟨⟨i, Hs_i⟩, hi_i, hS_i⟩
  dsimp only at hi_i hS_i ⊢
  have hb_i := hpl (Ky.mk 1 [] (Fc.b f))
  refine h_ (c_ (x_ (av_ rfl rfl) rfl fun r1 hr1 => ?_))
  refine e_ (b_ rfl (h_ ?_))
  cases r1
  · skip
    replace hr1 := of_decide_eq_false hr1
    refine v_ rfl (au_ rfl (bx_ rfl ?_))
    exact dv_ Tryz.results100 ⟨Hs_i, by unfold fH_; rw [List.take_of_length_le (by omega)] at hS_i; exact hS_i⟩ rfl S_ (fun _ _ _ => trivial)
  · skip
    replace hr1 := of_decide_eq_true hr1
    have hlx1 : i < List.length (lat pm (Ky.mk 1 [] (Fc.b f))) := by omega
    obtain ⟨x1, hx1⟩ : ∃ e0, (lat pm (Ky.mk 1 [] (Fc.b f)))[i]? = some e0 := ⟨_, List.getElem?_eq_getElem hlx1⟩
    have hmx1 : x1 ∈ (lat pm (Ky.mk 1 [] (Fc.b f))) := List.mem_of_getElem? hx1
    refine t_ rfl (z_ (b_ rfl (h_ (R_ (h_ (c_ (a_ (aa_ A_ K_ rfl rfl (fun v _ h => ay_ (n := 10) Pc.cells_len (by decide) (by exact (bO_ h.2.1 (Ky.mk 1 [] (Fc.b f)))) hx1) (by omega) (by first | omega | (simp; done))) rfl (a_ (aU_ (ad := (Prod.fst (A.p (Ky.mk 1 [] (Fc.b f))))) (us := Pc.cells x1) aG_ K_ rfl (fun v _ h => by exact (bO_ h.2.1 (Ky.mk 1 [] (Fc.b f)))) (Pc.cells_len _) (ad_ Pc.cells_len hx1)) rfl (ao_ aX_ rfl fun b2 => ?_)))))))))
    refine Q_ 0 K_ rfl rfl rfl rfl rfl rfl (e_ (b_ rfl ?_))
    refine aR_ ((b2, .cells (Pc.cells x1).toArray 47 (0, 0)) :: ((b1, .cells (Fc.cells f).toArray 41 (0, 0)) :: [])) (by kernel_rfl) ?_
    refine ah_ 2 [0, 1, 2, 3, 4, 5, 6, 7] (by kernel_rfl) (fun _ a b => ⟨Vw.sat.sub (a.perm (m_ i_ i_)), b⟩) (n_ rfl (d_ rfl) rfl (n_ rfl (ar_ rfl) rfl (n_ rfl (l_ J_ rfl rfl rfl be_) rfl (n_ rfl (al_ bJ_ rfl (fun v _ h => by exact h.1) rfl) rfl (n_ rfl (l_ o_ rfl rfl rfl j_) rfl (n_ rfl (u_ 1 q_ rfl rfl rfl) rfl (n_ rfl (l_ k_ rfl rfl rfl j_) rfl (n_ rfl (u_ 0 q_ rfl rfl rfl) rfl (ag_ ?_)))))))))
    refine X_ 8 rfl (by kernel_rfl) (W_ (fg_ (Fc.a f) (Pc.c x1)) rfl I_ (fun _ _ _ => by exact trivial) rfl fun _ => ?_)
    refine e_ (w_ rfl (N_ (fun _ a b => ⟨Vw.sat.sub (a.perm (m_ i_ i_)), b⟩) (X_ 9 rfl (by kernel_rfl) (bh_ (first := []) (cap := E.caps) (E.emit (an_ (Fc.a f) (Pc.c x1)) (emits E.stp (List.map (fun y => an_ (Fc.a f) (Pc.c y)) (List.take i (lat pm (Ky.mk 1 [] (Fc.b f))))) nw) fm Hs_i hS_i) rfl rfl (f_ S_) (fun v _ h => by exact ⟨h.2.2.2.2.2.2.2.2.1, trivial⟩) rfl fun ⟨Hs1, hS1⟩ => ?_))))
    dsimp only
    refine e_ (w_ rfl (N_ (fun _ a b => ⟨Vw.sat.sub (a.perm (m_ (s_ i_) bj_)), b⟩) (ac_ (by kernel_rfl) (b_ rfl (c_ (a_ (M_ rfl rfl rfl (af_ (by omega) (by omega))) rfl (a_ (d_ rfl) rfl (e_ (w_ rfl ?_)))))))))
    exact Z_ ⟨(i + 1, Hs1), hlx1, (by rw [eu_ hx1, aV_]; exact hS1)⟩ (by dsimp only; omega) ⟨rfl, rfl, rfl, rfl, rfl, trivial⟩ (m_ (s_ (f_ i_)) E_) (fun _ _ h => h)
theorem some_c (B : EngB) (E : Emt Tryz.prog 41) (A : EngA) (pm : List (Ky × Pc)) (x : Ix) (f : Fc) (nw fm : List Fc) (Hs : Hp) (hS : E.St nw fm Hs) (hpl : ∀ k, (lat pm k).length ≤ 1000000000) (hxl : ∀ k, (lat x.above k).length ≤ 1000000000 ∧ (lat x.under k).length ≤ 1000000000) (hyl : ∀ k, (lat x.frm k).length ≤ 1000000000 ∧ (lat x.into k).length ≤ 1000000000 ∧ (lat x.ranges k).length ≤ 1000000000 ∧ (lat x.firms k).length ≤ 1000000000) : Tri Tryz.prog 102 #[zp_ B.g 0, Fc.val f] Hs [gF B E, pF B pm A, aF B x A, uF B x A, oF B x A, iF B x A, rF B x A, sF B x A, E.ef] (fun _ : {H' : Hp // E.St (emits E.stp (jT_ pm f) nw) fm H'} => .tuple #[]) (fun y => y.1) (fun _ => []) := by
  refine T_ Tryz.func102 rfl rfl Tryz.ntmps102 rfl fun v0 => ?_
  refine h_ (c_ (bs_ rfl rfl fun b1 => ?_))
  refine e_ (b_ rfl (h_ ?_))
  refine aS_ (by kernel_rfl) ?_
  refine ah_ 0 [0, 1, 2, 3, 4, 5, 6, 7, 8, 9] (by kernel_rfl) (fun _ a b => ⟨a, b⟩) (n_ rfl (d_ rfl) rfl (n_ rfl (ar_ rfl) rfl (n_ rfl (l_ J_ rfl rfl rfl dy_) rfl (n_ rfl (al_ ed_ rfl (fun v _ h => by exact h.1) rfl) rfl (n_ rfl (l_ o_ rfl rfl rfl j_) rfl (n_ rfl (u_ 0 q_ rfl rfl rfl) rfl (n_ rfl (ap_ eq_ rfl rfl) rfl (n_ rfl (cx_ (k := (Ky.mk 3 [] (Fc.b f))) (adr := A.p) gf_ ci_ cr_ rfl rfl (fun v _ h => by exact h.2.1)) rfl (n_ rfl (am_ A_ rfl) rfl ?_)))))))))
  refine n_ rfl (d_ rfl) rfl (ag_ (ac_ (by kernel_rfl) (b_ rfl (R_ ?_))))
  refine aL_ (ι := {y : Nat × Hp // y.1 ≤ List.length (lat pm (Ky.mk 3 [] (Fc.b f))) ∧ E.St (emits E.stp (List.map (fun y => ax_ (Fc.a f) (Pc.r y) (Pc.c y)) (List.take y.1 (lat pm (Ky.mk 3 [] (Fc.b f))))) nw) fm y.2}) (fun y => [(0, zp_ B.g 0), (3, zp_ b1 0), (13, .slice (Prod.fst (A.p (Ky.mk 3 [] (Fc.b f)))) (List.length (lat pm (Ky.mk 3 [] (Fc.b f)))) (Prod.snd (A.p (Ky.mk 3 [] (Fc.b f))))), (14, .int .i64 (List.length (lat pm (Ky.mk 3 [] (Fc.b f))) : Int)), (15, .int .i64 (y.1.1 : Int))]) (fun y => ((b1, .cells (Fc.cells f).toArray 41 (0, 0)) :: y.1.2)) (fun y => [gF B E, pF B pm A, aF B x A, uF B x A, oF B x A, iF B x A, rF B x A, sF B x A, E.ef]) (fun y => List.length (lat pm (Ky.mk 3 [] (Fc.b f))) - y.1.1) ⟨((0 : Nat), Hs), by simp, by exact hS⟩ ⟨rfl, rfl, rfl, rfl, rfl, trivial⟩ (m_ i_ aD_) (fun _ _ h => h) ?_
  rintro ⟨⟨i, Hs_i⟩, hi_i, hS_i⟩
  dsimp only at hi_i hS_i ⊢
  have hb_i := hpl (Ky.mk 3 [] (Fc.b f))
  refine h_ (c_ (x_ (av_ rfl rfl) rfl fun r1 hr1 => ?_))
  refine e_ (b_ rfl (h_ ?_))
  cases r1
  · skip
    replace hr1 := of_decide_eq_false hr1
    refine v_ rfl (au_ rfl (bx_ rfl ?_))
    exact dv_ Tryz.results102 ⟨Hs_i, by unfold jT_; rw [List.take_of_length_le (by omega)] at hS_i; exact hS_i⟩ rfl S_ (fun _ _ _ => trivial)
  · skip
    replace hr1 := of_decide_eq_true hr1
    have hlx1 : i < List.length (lat pm (Ky.mk 3 [] (Fc.b f))) := by omega
    obtain ⟨x1, hx1⟩ : ∃ e0, (lat pm (Ky.mk 3 [] (Fc.b f)))[i]? = some e0 := ⟨_, List.getElem?_eq_getElem hlx1⟩
    have hmx1 : x1 ∈ (lat pm (Ky.mk 3 [] (Fc.b f))) := List.mem_of_getElem? hx1
    refine t_ rfl (z_ (b_ rfl (h_ (R_ (h_ (c_ (a_ (aa_ A_ K_ rfl rfl (fun v _ h => ay_ (n := 10) Pc.cells_len (by decide) (by exact (bO_ h.2.1 (Ky.mk 3 [] (Fc.b f)))) hx1) (by omega) (by first | omega | (simp; done))) rfl (a_ (aU_ (ad := (Prod.fst (A.p (Ky.mk 3 [] (Fc.b f))))) (us := Pc.cells x1) aG_ K_ rfl (fun v _ h => by exact (bO_ h.2.1 (Ky.mk 3 [] (Fc.b f)))) (Pc.cells_len _) (ad_ Pc.cells_len hx1)) rfl (ao_ aX_ rfl fun b2 => ?_)))))))))
    refine Q_ 0 K_ rfl rfl rfl rfl rfl rfl (e_ (b_ rfl ?_))
    refine aR_ ((b2, .cells (Pc.cells x1).toArray 47 (0, 0)) :: ((b1, .cells (Fc.cells f).toArray 41 (0, 0)) :: [])) (by kernel_rfl) ?_
    refine ah_ 2 [0, 1, 2, 3, 4, 5, 6, 7, 8, 9] (by kernel_rfl) (fun _ a b => ⟨Vw.sat.sub (a.perm (m_ i_ i_)), b⟩) (n_ rfl (d_ rfl) rfl (n_ rfl (ar_ rfl) rfl (n_ rfl (l_ J_ rfl rfl rfl be_) rfl (n_ rfl (al_ bJ_ rfl (fun v _ h => by exact h.1) rfl) rfl (n_ rfl (l_ o_ rfl rfl rfl j_) rfl (n_ rfl (u_ 1 q_ rfl rfl rfl) rfl (n_ rfl (l_ k_ rfl rfl rfl j_) rfl (n_ rfl (u_ 0 q_ rfl rfl rfl) rfl (n_ rfl (l_ k_ rfl rfl rfl j_) rfl ?_)))))))))
    refine n_ rfl (u_ 0 q_ rfl rfl rfl) rfl (ag_ (X_ 10 rfl (by kernel_rfl) (W_ (iY_ (Fc.a f) (Pc.r x1) (Pc.c x1)) rfl I_ (fun _ _ _ => by exact trivial) rfl fun _ => ?_)))
    refine e_ (w_ rfl (N_ (fun _ a b => ⟨Vw.sat.sub (a.perm (m_ i_ i_)), b⟩) (X_ 11 rfl (by kernel_rfl) (bh_ (first := []) (cap := E.caps) (E.emit (ax_ (Fc.a f) (Pc.r x1) (Pc.c x1)) (emits E.stp (List.map (fun y => ax_ (Fc.a f) (Pc.r y) (Pc.c y)) (List.take i (lat pm (Ky.mk 3 [] (Fc.b f))))) nw) fm Hs_i hS_i) rfl rfl (f_ S_) (fun v _ h => by exact ⟨h.2.2.2.2.2.2.2.2.1, trivial⟩) rfl fun ⟨Hs1, hS1⟩ => ?_))))
    dsimp only
    refine e_ (w_ rfl (N_ (fun _ a b => ⟨Vw.sat.sub (a.perm (m_ (s_ i_) bj_)), b⟩) (ac_ (by kernel_rfl) (b_ rfl (c_ (a_ (M_ rfl rfl rfl (af_ (by omega) (by omega))) rfl (a_ (d_ rfl) rfl (e_ (w_ rfl ?_)))))))))
    exact Z_ ⟨(i + 1, Hs1), hlx1, (by rw [eu_ hx1, aV_]; exact hS1)⟩ (by dsimp only; omega) ⟨rfl, rfl, rfl, rfl, rfl, trivial⟩ (m_ (s_ (f_ i_)) E_) (fun _ _ h => h)
theorem nQ_ (B : EngB) (E : Emt Tryz.prog 41) (A : EngA) (pm : List (Ky × Pc)) (x : Ix) (f : Fc) (nw fm : List Fc) (Hs : Hp) (hS : E.St nw fm Hs) (hpl : ∀ k, (lat pm k).length ≤ 1000000000) (hxl : ∀ k, (lat x.above k).length ≤ 1000000000 ∧ (lat x.under k).length ≤ 1000000000) (hyl : ∀ k, (lat x.frm k).length ≤ 1000000000 ∧ (lat x.into k).length ≤ 1000000000 ∧ (lat x.ranges k).length ≤ 1000000000 ∧ (lat x.firms k).length ≤ 1000000000) : Tri Tryz.prog 106 #[zp_ B.g 0, Fc.val f] Hs [gF B E, pF B pm A, aF B x A, uF B x A, oF B x A, iF B x A, rF B x A, sF B x A, E.ef] (fun _ : {H' : Hp // E.St (emits E.stp (fE_ pm f) nw) fm H'} => .tuple #[]) (fun y => y.1) (fun _ => []) := by
  refine T_ Tryz.func106 rfl rfl Tryz.ntmps106 rfl fun v0 => ?_
  refine h_ (c_ (bs_ rfl rfl fun b1 => ?_))
  refine e_ (b_ rfl (h_ ?_))
  refine aS_ (by kernel_rfl) ?_
  refine ah_ 0 [0, 1, 2, 3, 4, 5, 6, 7, 8, 9] (by kernel_rfl) (fun _ a b => ⟨a, b⟩) (n_ rfl (d_ rfl) rfl (n_ rfl (ar_ rfl) rfl (n_ rfl (l_ J_ rfl rfl rfl dy_) rfl (n_ rfl (al_ ed_ rfl (fun v _ h => by exact h.1) rfl) rfl (n_ rfl (l_ o_ rfl rfl rfl j_) rfl (n_ rfl (u_ 0 q_ rfl rfl rfl) rfl (n_ rfl (ap_ eq_ rfl rfl) rfl (n_ rfl (cx_ (k := (Ky.mk 5 (Fc.r f) [])) (adr := A.p) gf_ ci_ cr_ rfl rfl (fun v _ h => by exact h.2.1)) rfl (n_ rfl (am_ A_ rfl) rfl ?_)))))))))
  refine n_ rfl (d_ rfl) rfl (ag_ (ac_ (by kernel_rfl) (b_ rfl (R_ ?_))))
  refine aL_ (ι := {y : Nat × Hp // y.1 ≤ List.length (lat pm (Ky.mk 5 (Fc.r f) [])) ∧ E.St (emits E.stp (List.map (fun y => ax_ (Fc.a f) (Pc.t y) (Fc.b f)) (List.take y.1 (lat pm (Ky.mk 5 (Fc.r f) [])))) nw) fm y.2}) (fun y => [(0, zp_ B.g 0), (3, zp_ b1 0), (13, .slice (Prod.fst (A.p (Ky.mk 5 (Fc.r f) []))) (List.length (lat pm (Ky.mk 5 (Fc.r f) []))) (Prod.snd (A.p (Ky.mk 5 (Fc.r f) [])))), (14, .int .i64 (List.length (lat pm (Ky.mk 5 (Fc.r f) [])) : Int)), (15, .int .i64 (y.1.1 : Int))]) (fun y => ((b1, .cells (Fc.cells f).toArray 41 (0, 0)) :: y.1.2)) (fun y => [gF B E, pF B pm A, aF B x A, uF B x A, oF B x A, iF B x A, rF B x A, sF B x A, E.ef]) (fun y => List.length (lat pm (Ky.mk 5 (Fc.r f) [])) - y.1.1) ⟨((0 : Nat), Hs), by simp, by exact hS⟩ ⟨rfl, rfl, rfl, rfl, rfl, trivial⟩ (m_ i_ aD_) (fun _ _ h => h) ?_
  rintro ⟨⟨i, Hs_i⟩, hi_i, hS_i⟩
  dsimp only at hi_i hS_i ⊢
  have hb_i := hpl (Ky.mk 5 (Fc.r f) [])
  refine h_ (c_ (x_ (av_ rfl rfl) rfl fun r1 hr1 => ?_))
  refine e_ (b_ rfl (h_ ?_))
  cases r1
  · skip
    replace hr1 := of_decide_eq_false hr1
    refine v_ rfl (au_ rfl (bx_ rfl ?_))
    exact dv_ Tryz.results106 ⟨Hs_i, by unfold fE_; rw [List.take_of_length_le (by omega)] at hS_i; exact hS_i⟩ rfl S_ (fun _ _ _ => trivial)
  · skip
    replace hr1 := of_decide_eq_true hr1
    have hlx1 : i < List.length (lat pm (Ky.mk 5 (Fc.r f) [])) := by omega
    obtain ⟨x1, hx1⟩ : ∃ e0, (lat pm (Ky.mk 5 (Fc.r f) []))[i]? = some e0 := ⟨_, List.getElem?_eq_getElem hlx1⟩
    have hmx1 : x1 ∈ (lat pm (Ky.mk 5 (Fc.r f) [])) := List.mem_of_getElem? hx1
    refine t_ rfl (z_ (b_ rfl (h_ (R_ (h_ (c_ (a_ (aa_ A_ K_ rfl rfl (fun v _ h => ay_ (n := 10) Pc.cells_len (by decide) (by exact (bO_ h.2.1 (Ky.mk 5 (Fc.r f) []))) hx1) (by omega) (by first | omega | (simp; done))) rfl (a_ (aU_ (ad := (Prod.fst (A.p (Ky.mk 5 (Fc.r f) [])))) (us := Pc.cells x1) aG_ K_ rfl (fun v _ h => by exact (bO_ h.2.1 (Ky.mk 5 (Fc.r f) []))) (Pc.cells_len _) (ad_ Pc.cells_len hx1)) rfl (ao_ aX_ rfl fun b2 => ?_)))))))))
    refine Q_ 0 K_ rfl rfl rfl rfl rfl rfl (e_ (b_ rfl ?_))
    refine aR_ ((b2, .cells (Pc.cells x1).toArray 47 (0, 0)) :: ((b1, .cells (Fc.cells f).toArray 41 (0, 0)) :: [])) (by kernel_rfl) ?_
    refine ah_ 2 [0, 1, 2, 3, 4, 5, 6, 7, 8, 9] (by kernel_rfl) (fun _ a b => ⟨Vw.sat.sub (a.perm (m_ i_ i_)), b⟩) (n_ rfl (d_ rfl) rfl (n_ rfl (ar_ rfl) rfl (n_ rfl (l_ J_ rfl rfl rfl be_) rfl (n_ rfl (al_ bJ_ rfl (fun v _ h => by exact h.1) rfl) rfl (n_ rfl (l_ o_ rfl rfl rfl j_) rfl (n_ rfl (u_ 1 q_ rfl rfl rfl) rfl (n_ rfl (l_ k_ rfl rfl rfl j_) rfl (n_ rfl (u_ 0 q_ rfl rfl rfl) rfl (n_ rfl (l_ o_ rfl rfl rfl j_) rfl ?_)))))))))
    refine n_ rfl (u_ 1 q_ rfl rfl rfl) rfl (ag_ (X_ 10 rfl (by kernel_rfl) (W_ (iY_ (Fc.a f) (Pc.t x1) (Fc.b f)) rfl I_ (fun _ _ _ => by exact trivial) rfl fun _ => ?_)))
    refine e_ (w_ rfl (N_ (fun _ a b => ⟨Vw.sat.sub (a.perm (m_ i_ i_)), b⟩) (X_ 11 rfl (by kernel_rfl) (bh_ (first := []) (cap := E.caps) (E.emit (ax_ (Fc.a f) (Pc.t x1) (Fc.b f)) (emits E.stp (List.map (fun y => ax_ (Fc.a f) (Pc.t y) (Fc.b f)) (List.take i (lat pm (Ky.mk 5 (Fc.r f) [])))) nw) fm Hs_i hS_i) rfl rfl (f_ S_) (fun v _ h => by exact ⟨h.2.2.2.2.2.2.2.2.1, trivial⟩) rfl fun ⟨Hs1, hS1⟩ => ?_))))
    dsimp only
    refine e_ (w_ rfl (N_ (fun _ a b => ⟨Vw.sat.sub (a.perm (m_ (s_ i_) bj_)), b⟩) (ac_ (by kernel_rfl) (b_ rfl (c_ (a_ (M_ rfl rfl rfl (af_ (by omega) (by omega))) rfl (a_ (d_ rfl) rfl (e_ (w_ rfl ?_)))))))))
    exact Z_ ⟨(i + 1, Hs1), hlx1, (by rw [eu_ hx1, aV_]; exact hS1)⟩ (by dsimp only; omega) ⟨rfl, rfl, rfl, rfl, rfl, trivial⟩ (m_ (s_ (f_ i_)) E_) (fun _ _ h => h)
theorem fG_ {α β : Type} {g : α → List β} {l : List α} {i : Nat} {x : α} (h : l[i]? = some x) : List.flatMap g (List.take (i + 1) l) = List.flatMap g (List.take i l) ++ g x := by
  rw [List.take_add_one, h, Option.toList_some, List.flatMap_append]; simp
theorem hX_ {stp : Fc → List Fc → List Fc} {kof : List Fc → List Fc} {f : Fc} {l : List Pc} {i : Nat} {x : Pc} {s : List Fc} (h : l[i]? = some x) : ef_ stp kof f (List.take (i + 1) l) s = if an_ f.a x.a ∈ kof (ef_ stp kof f (List.take i l) s) ∧ an_ f.a x.b ∈ kof (ef_ stp kof f (List.take i l) s) then stp (an_ f.a x.c) (ef_ stp kof f (List.take i l) s) else ef_ stp kof f (List.take i l) s := by
  unfold ef_
  rw [List.take_add_one, h, Option.toList_some, List.foldl_append]; rfl
theorem iy_ {stp : Fc → List Fc → List Fc} {kof : List Fc → List Fc} {f : Fc} {l : List Pc} {i : Nat} {x : Pc} {s : List Fc × List Fc} (h : l[i]? = some x) : cD_ stp kof f (List.take (i + 1) l) s = (stp (aP_ f.a x.r x.lo x.hi) (cD_ stp kof f (List.take i l) s).1, if aP_ f.a x.r x.lo x.hi ∈ kof (cD_ stp kof f (List.take i l) s).1 then (cD_ stp kof f (List.take i l) s).2 else aP_ f.a x.r x.lo x.hi :: (cD_ stp kof f (List.take i l) s).2) := by
  unfold cD_
  rw [List.take_add_one, h, Option.toList_some, List.foldl_append]; rfl
theorem both_c (B : EngB) (E : Emt Tryz.prog 41) (A : EngA) (pm : List (Ky × Pc)) (x : Ix) (f : Fc) (nw fm : List Fc) (Hs : Hp) (hS : E.St nw fm Hs) (hpl : ∀ k, (lat pm k).length ≤ 1000000000) (hxl : ∀ k, (lat x.above k).length ≤ 1000000000 ∧ (lat x.under k).length ≤ 1000000000) (hyl : ∀ k, (lat x.frm k).length ≤ 1000000000 ∧ (lat x.into k).length ≤ 1000000000 ∧ (lat x.ranges k).length ≤ 1000000000 ∧ (lat x.firms k).length ≤ 1000000000) : Tri Tryz.prog 101 #[zp_ B.g 0, Fc.val f] Hs [gF B E, pF B pm A, aF B x A, uF B x A, oF B x A, iF B x A, rF B x A, sF B x A, E.ef] (fun _ : {H' : Hp // E.St (ef_ E.stp E.kof f (lat pm (Ky.mk 2 [] (Fc.b f))) nw) fm H'} => .tuple #[]) (fun y => y.1) (fun _ => []) := by
 refine T_ Tryz.func101 rfl rfl Tryz.ntmps101 rfl fun v0 => ?_
 refine h_ (c_ (bs_ rfl rfl fun b1 => ?_))
 refine e_ (b_ rfl (h_ ?_))
 refine aS_ (by kernel_rfl) ?_
 refine ah_ 0 [0, 1, 2, 3, 4, 5, 6, 7, 8, 9] (by kernel_rfl) (fun _ a b => ⟨a, b⟩) (n_ rfl (d_ rfl) rfl (n_ rfl (ar_ rfl) rfl (n_ rfl (l_ J_ rfl rfl rfl dy_) rfl (n_ rfl (al_ ed_ rfl (fun v _ h => by exact h.1) rfl) rfl (n_ rfl (l_ o_ rfl rfl rfl j_) rfl (n_ rfl (u_ 0 q_ rfl rfl rfl) rfl (n_ rfl (ap_ eq_ rfl rfl) rfl (n_ rfl (cx_ (k := (Ky.mk 2 [] (Fc.b f))) (adr := A.p) gf_ ci_ cr_ rfl rfl (fun v _ h => by exact h.2.1)) rfl (n_ rfl (am_ A_ rfl) rfl ?_)))))))))
 refine n_ rfl (d_ rfl) rfl (ag_ (ac_ (by kernel_rfl) (b_ rfl (R_ ?_))))
 refine aL_ (ι := {y : Nat × Hp // y.1 ≤ List.length (lat pm (Ky.mk 2 [] (Fc.b f))) ∧ E.St (ef_ E.stp E.kof f (List.take y.1 (lat pm (Ky.mk 2 [] (Fc.b f)))) nw) fm y.2}) (fun y => [(0, zp_ B.g 0), (3, zp_ b1 0), (13, .slice (Prod.fst (A.p (Ky.mk 2 [] (Fc.b f)))) (List.length (lat pm (Ky.mk 2 [] (Fc.b f)))) (Prod.snd (A.p (Ky.mk 2 [] (Fc.b f))))), (14, .int .i64 (List.length (lat pm (Ky.mk 2 [] (Fc.b f))) : Int)), (15, .int .i64 (y.1.1 : Int))]) (fun y => ((b1, .cells (Fc.cells f).toArray 41 (0, 0)) :: y.1.2)) (fun y => [gF B E, pF B pm A, aF B x A, uF B x A, oF B x A, iF B x A, rF B x A, sF B x A, E.ef]) (fun y => List.length (lat pm (Ky.mk 2 [] (Fc.b f))) - y.1.1) ⟨((0 : Nat), Hs), by simp, by exact hS⟩ ⟨rfl, rfl, rfl, rfl, rfl, trivial⟩ (m_ i_ aD_) (fun _ _ h => h) ?_
 rintro ⟨⟨i, Hs_i⟩, hi_i, hS_i⟩
 dsimp only at hi_i hS_i ⊢
 have hb_i := hpl (Ky.mk 2 [] (Fc.b f))
 refine h_ (c_ (x_ (av_ rfl rfl) rfl fun r1 hr1 => ?_))
 refine e_ (b_ rfl (h_ ?_))
 cases r1
 ·
  replace hr1 := of_decide_eq_false hr1
  refine v_ rfl (au_ rfl (bx_ rfl ?_))
  exact dv_ Tryz.results101 ⟨Hs_i, by rw [List.take_of_length_le (by omega)] at hS_i; exact hS_i⟩ rfl S_ (fun _ _ _ => trivial)
 ·
  replace hr1 := of_decide_eq_true hr1
  have hlx1 : i < List.length (lat pm (Ky.mk 2 [] (Fc.b f))) := by omega
  obtain ⟨x1, hx1⟩ : ∃ e0, (lat pm (Ky.mk 2 [] (Fc.b f)))[i]? = some e0 := ⟨_, List.getElem?_eq_getElem hlx1⟩
  have hmx1 : x1 ∈ (lat pm (Ky.mk 2 [] (Fc.b f))) := List.mem_of_getElem? hx1
  refine t_ rfl (z_ (b_ rfl (h_ (R_ (h_ (c_ (a_ (aa_ A_ K_ rfl rfl (fun v _ h => ay_ (n := 10) Pc.cells_len (by decide) (by exact (bO_ h.2.1 (Ky.mk 2 [] (Fc.b f)))) hx1) (by omega) (by first | omega | (simp; done))) rfl (a_ (aU_ (ad := (Prod.fst (A.p (Ky.mk 2 [] (Fc.b f))))) (us := Pc.cells x1) aG_ K_ rfl (fun v _ h => by exact (bO_ h.2.1 (Ky.mk 2 [] (Fc.b f)))) (Pc.cells_len _) (ad_ Pc.cells_len hx1)) rfl (ao_ aX_ rfl fun b2 => ?_)))))))))
  refine Q_ 0 K_ rfl rfl rfl rfl rfl rfl (e_ (b_ rfl (h_ ?_)))
  refine aS_ (by kernel_rfl) ?_
  refine ah_ 14 [0, 1, 2, 3, 4, 5, 6, 7] (by kernel_rfl) (fun _ a b => ⟨a, b⟩) (n_ rfl (d_ rfl) rfl (n_ rfl (ar_ rfl) rfl (n_ rfl (l_ J_ rfl rfl rfl bW_) rfl (n_ rfl (al_ cz_ rfl (fun v _ h => by exact h.1) rfl) rfl (n_ rfl (l_ o_ rfl rfl rfl j_) rfl (n_ rfl (u_ 1 q_ rfl rfl rfl) rfl (n_ rfl (l_ k_ rfl rfl rfl j_) rfl (n_ rfl (u_ 0 q_ rfl rfl rfl) rfl (ag_ ?_)))))))))
  refine X_ 8 rfl (by kernel_rfl) (W_ (fg_ (Fc.a f) (Pc.a x1)) rfl I_ (fun _ _ _ => by exact trivial) rfl fun _ => ?_)
  refine e_ (w_ rfl (N_ (fun _ a b => ⟨a, b⟩) (ah_ 11 [9, 10] (by kernel_rfl) (fun _ a b => ⟨a, b⟩) ?_)))
  refine cl_ rfl (gB_ (f := (an_ (Fc.a f) (Pc.a x1))) hS_i gr_ bq_ dK_ rfl rfl (f_ S_)) rfl fun r2 hr2 => ?_
  refine n_ rfl (d_ rfl) rfl (ag_ ?_)
  cases r2
  ·
   replace hr2 := of_decide_eq_false hr2
   refine ah_ 0 [11, 12, 13, 14, 15, 16, 17, 18, 19, 20, 21] (by kernel_rfl) (fun _ a b => ⟨a, b⟩) (aE_ rfl rfl rfl rfl rfl (aE_ rfl rfl rfl rfl rfl (aE_ rfl rfl rfl rfl rfl (aE_ rfl rfl rfl rfl rfl (aE_ rfl rfl rfl rfl rfl (aE_ rfl rfl rfl rfl rfl (aE_ rfl rfl rfl rfl rfl (aE_ rfl rfl rfl rfl rfl (aE_ rfl rfl rfl rfl rfl ?_)))))))))
   refine aE_ rfl rfl rfl rfl rfl (n_ rfl (C_ rfl rfl) rfl (ag_ (ac_ (by kernel_rfl) (b_ rfl (v_ rfl (z_ (b_ rfl (c_ (a_ (M_ rfl rfl rfl (af_ (by omega) (by omega))) rfl ?_)))))))))
   refine a_ (d_ rfl) rfl (e_ (w_ rfl ?_))
   exact Z_ ⟨(i + 1, Hs_i), hlx1, (by rw [hX_ hx1]; first | (rw [if_pos ⟨by assumption, by assumption⟩]; exact hS_i) | (rw [if_neg (fun q => absurd q.1 (by assumption))]; exact hS_i) | (rw [if_neg (fun q => absurd q.2 (by assumption))]; exact hS_i))⟩ (by dsimp only; omega) ⟨rfl, rfl, rfl, rfl, rfl, trivial⟩ (m_ (f_ i_) S_) (fun _ _ h => h)
  ·
   replace hr2 := of_decide_eq_true hr2
   refine ah_ 3 [11, 12, 13, 14, 15, 16, 17, 18] (by kernel_rfl) (fun _ a b => ⟨a, b⟩) (aC_ rfl rfl rfl (d_ rfl) rfl (aC_ rfl rfl rfl (ar_ rfl) rfl (aC_ rfl rfl rfl (l_ J_ rfl rfl rfl bW_) rfl (aC_ rfl rfl rfl (al_ cz_ rfl (fun v _ h => by exact h.1) rfl) rfl (aC_ rfl rfl rfl (l_ o_ rfl rfl rfl j_) rfl (aC_ rfl rfl rfl (u_ 1 q_ rfl rfl rfl) rfl (aC_ rfl rfl rfl (l_ k_ rfl rfl rfl j_) rfl (aC_ rfl rfl rfl (u_ 0 q_ rfl rfl rfl) rfl (ag_ ?_)))))))))
   refine X_ 19 rfl (by kernel_rfl) (p_ rfl rfl (W_ (fg_ (Fc.a f) (Pc.b x1)) rfl I_ (fun _ _ _ => by exact trivial) rfl fun _ => ?_))
   refine e_ (w_ rfl (N_ (fun _ a b => ⟨a, b⟩) (ah_ 0 [20, 21] (by kernel_rfl) (fun _ a b => ⟨a, b⟩) ?_)))
   refine dB_ rfl rfl rfl (gB_ (f := (an_ (Fc.a f) (Pc.b x1))) hS_i gr_ bq_ dK_ rfl rfl (f_ S_)) rfl fun r3 hr3 => ?_
   refine n_ rfl (H_ rfl rfl) rfl (ag_ (ac_ (by kernel_rfl) (b_ rfl ?_)))
   cases r3
   ·
    replace hr3 := of_decide_eq_false hr3
    refine v_ rfl (z_ (b_ rfl (c_ (a_ (M_ rfl rfl rfl (af_ (by omega) (by omega))) rfl (a_ (d_ rfl) rfl (e_ (w_ rfl ?_)))))))
    exact Z_ ⟨(i + 1, Hs_i), hlx1, (by rw [hX_ hx1]; first | (rw [if_pos ⟨by assumption, by assumption⟩]; exact hS_i) | (rw [if_neg (fun q => absurd q.1 (by assumption))]; exact hS_i) | (rw [if_neg (fun q => absurd q.2 (by assumption))]; exact hS_i))⟩ (by dsimp only; omega) ⟨rfl, rfl, rfl, rfl, rfl, trivial⟩ (m_ (f_ i_) S_) (fun _ _ h => h)
   ·
    replace hr3 := of_decide_eq_true hr3
    refine t_ rfl ?_
    refine aR_ ((b2, .cells (Pc.cells x1).toArray 47 (0, 0)) :: ((b1, .cells (Fc.cells f).toArray 41 (0, 0)) :: [])) (by kernel_rfl) ?_
    refine ah_ 2 [0, 1, 2, 3, 4, 5, 6, 7] (by kernel_rfl) (fun _ a b => ⟨Vw.sat.sub (a.perm (m_ i_ i_)), b⟩) (n_ rfl (d_ rfl) rfl (n_ rfl (ar_ rfl) rfl (n_ rfl (l_ J_ rfl rfl rfl be_) rfl (n_ rfl (al_ bJ_ rfl (fun v _ h => by exact h.1) rfl) rfl (n_ rfl (l_ o_ rfl rfl rfl j_) rfl (n_ rfl (u_ 1 q_ rfl rfl rfl) rfl (n_ rfl (l_ k_ rfl rfl rfl j_) rfl (n_ rfl (u_ 0 q_ rfl rfl rfl) rfl (ag_ ?_)))))))))
    refine X_ 8 rfl (by kernel_rfl) (W_ (fg_ (Fc.a f) (Pc.c x1)) rfl I_ (fun _ _ _ => by exact trivial) rfl fun _ => ?_)
    refine e_ (w_ rfl (N_ (fun _ a b => ⟨Vw.sat.sub (a.perm (m_ i_ i_)), b⟩) (X_ 9 rfl (by kernel_rfl) (bh_ (first := []) (cap := E.caps) (E.emit (an_ (Fc.a f) (Pc.c x1)) (ef_ E.stp E.kof f (List.take i (lat pm (Ky.mk 2 [] (Fc.b f)))) nw) fm Hs_i hS_i) rfl rfl (f_ S_) (fun v _ h => by exact ⟨h.2.2.2.2.2.2.2.2.1, trivial⟩) rfl fun ⟨Hs1, hS1⟩ => ?_))))
    dsimp only
    refine e_ (w_ rfl (N_ (fun _ a b => ⟨Vw.sat.sub (a.perm (m_ (s_ i_) bj_)), b⟩) (ac_ (by kernel_rfl) (b_ rfl (c_ (a_ (M_ rfl rfl rfl (af_ (by omega) (by omega))) rfl (a_ (d_ rfl) rfl (e_ (w_ rfl ?_)))))))))
    exact Z_ ⟨(i + 1, Hs1), hlx1, (by rw [hX_ hx1]; first | (rw [if_pos ⟨by assumption, by assumption⟩]; exact hS1) | (rw [if_neg (fun q => absurd q.1 (by assumption))]; exact hS1) | (rw [if_neg (fun q => absurd q.2 (by assumption))]; exact hS1))⟩ (by dsimp only; omega) ⟨rfl, rfl, rfl, rfl, rfl, trivial⟩ (m_ (s_ (f_ i_)) E_) (fun _ _ h => h)
theorem pK_ (B : EngB) (E : Emt Tryz.prog 41) (A : EngA) (pm : List (Ky × Pc)) (x : Ix) (f : Fc) (nw fm : List Fc) (Hs : Hp) (hS : E.St nw fm Hs) (hpl : ∀ k, (lat pm k).length ≤ 1000000000) (hxl : ∀ k, (lat x.above k).length ≤ 1000000000 ∧ (lat x.under k).length ≤ 1000000000) (hyl : ∀ k, (lat x.frm k).length ≤ 1000000000 ∧ (lat x.into k).length ≤ 1000000000 ∧ (lat x.ranges k).length ≤ 1000000000 ∧ (lat x.firms k).length ≤ 1000000000) : Tri Tryz.prog 105 #[zp_ B.g 0, Fc.val f] Hs [gF B E, pF B pm A, aF B x A, uF B x A, oF B x A, iF B x A, rF B x A, sF B x A, E.ef] (fun _ : {H' : Hp // E.St (Prod.fst (cD_ E.stp E.kof f (lat pm (Ky.mk 8 [] (Fc.b f))) (nw, fm))) (Prod.snd (cD_ E.stp E.kof f (lat pm (Ky.mk 8 [] (Fc.b f))) (nw, fm))) H'} => .tuple #[]) (fun y => y.1) (fun _ => []) := by
 refine T_ Tryz.func105 rfl rfl Tryz.ntmps105 rfl fun v0 => ?_
 refine h_ (c_ (bs_ rfl rfl fun b1 => ?_))
 refine e_ (b_ rfl (h_ ?_))
 refine aS_ (by kernel_rfl) ?_
 refine ah_ 0 [0, 1, 2, 3, 4, 5, 6, 7, 8, 9] (by kernel_rfl) (fun _ a b => ⟨a, b⟩) (n_ rfl (d_ rfl) rfl (n_ rfl (ar_ rfl) rfl (n_ rfl (l_ J_ rfl rfl rfl dy_) rfl (n_ rfl (al_ ed_ rfl (fun v _ h => by exact h.1) rfl) rfl (n_ rfl (l_ o_ rfl rfl rfl j_) rfl (n_ rfl (u_ 0 q_ rfl rfl rfl) rfl (n_ rfl (ap_ eq_ rfl rfl) rfl (n_ rfl (cx_ (k := (Ky.mk 8 [] (Fc.b f))) (adr := A.p) gf_ ci_ cr_ rfl rfl (fun v _ h => by exact h.2.1)) rfl (n_ rfl (am_ A_ rfl) rfl ?_)))))))))
 refine n_ rfl (d_ rfl) rfl (ag_ (ac_ (by kernel_rfl) (b_ rfl (R_ ?_))))
 refine aL_ (ι := {y : Nat × Hp // y.1 ≤ List.length (lat pm (Ky.mk 8 [] (Fc.b f))) ∧ E.St (Prod.fst (cD_ E.stp E.kof f (List.take y.1 (lat pm (Ky.mk 8 [] (Fc.b f)))) (nw, fm))) (Prod.snd (cD_ E.stp E.kof f (List.take y.1 (lat pm (Ky.mk 8 [] (Fc.b f)))) (nw, fm))) y.2}) (fun y => [(0, zp_ B.g 0), (3, zp_ b1 0), (14, .slice (Prod.fst (A.p (Ky.mk 8 [] (Fc.b f)))) (List.length (lat pm (Ky.mk 8 [] (Fc.b f)))) (Prod.snd (A.p (Ky.mk 8 [] (Fc.b f))))), (15, .int .i64 (List.length (lat pm (Ky.mk 8 [] (Fc.b f))) : Int)), (16, .int .i64 (y.1.1 : Int))]) (fun y => ((b1, .cells (Fc.cells f).toArray 41 (0, 0)) :: y.1.2)) (fun y => [gF B E, pF B pm A, aF B x A, uF B x A, oF B x A, iF B x A, rF B x A, sF B x A, E.ef]) (fun y => List.length (lat pm (Ky.mk 8 [] (Fc.b f))) - y.1.1) ⟨((0 : Nat), Hs), by simp, by exact hS⟩ ⟨rfl, rfl, rfl, rfl, rfl, trivial⟩ (m_ i_ aD_) (fun _ _ h => h) ?_
 rintro ⟨⟨i, Hs_i⟩, hi_i, hS_i⟩
 dsimp only at hi_i hS_i ⊢
 have hb_i := hpl (Ky.mk 8 [] (Fc.b f))
 refine h_ (c_ (x_ (av_ rfl rfl) rfl fun r1 hr1 => ?_))
 refine e_ (b_ rfl (h_ ?_))
 cases r1
 ·
  replace hr1 := of_decide_eq_false hr1
  refine v_ rfl (au_ rfl (bx_ rfl ?_))
  exact dv_ Tryz.results105 ⟨Hs_i, by rw [List.take_of_length_le (by omega)] at hS_i; exact hS_i⟩ rfl S_ (fun _ _ _ => trivial)
 ·
  replace hr1 := of_decide_eq_true hr1
  have hlx1 : i < List.length (lat pm (Ky.mk 8 [] (Fc.b f))) := by omega
  obtain ⟨x1, hx1⟩ : ∃ e0, (lat pm (Ky.mk 8 [] (Fc.b f)))[i]? = some e0 := ⟨_, List.getElem?_eq_getElem hlx1⟩
  have hmx1 : x1 ∈ (lat pm (Ky.mk 8 [] (Fc.b f))) := List.mem_of_getElem? hx1
  refine t_ rfl (z_ (b_ rfl (h_ (R_ (h_ (c_ (a_ (aa_ A_ K_ rfl rfl (fun v _ h => ay_ (n := 10) Pc.cells_len (by decide) (by exact (bO_ h.2.1 (Ky.mk 8 [] (Fc.b f)))) hx1) (by omega) (by first | omega | (simp; done))) rfl (a_ (aU_ (ad := (Prod.fst (A.p (Ky.mk 8 [] (Fc.b f))))) (us := Pc.cells x1) aG_ K_ rfl (fun v _ h => by exact (bO_ h.2.1 (Ky.mk 8 [] (Fc.b f)))) (Pc.cells_len _) (ad_ Pc.cells_len hx1)) rfl (ao_ aX_ rfl fun b2 => ?_)))))))))
  refine Q_ 0 K_ rfl rfl rfl rfl rfl rfl (e_ (b_ rfl (h_ (c_ (a_ (l_ o_ rfl rfl rfl j_) rfl (a_ (u_ 1 q_ rfl rfl rfl) rfl (a_ (l_ k_ rfl rfl rfl j_) rfl (a_ (u_ 0 q_ rfl rfl rfl) rfl (a_ (l_ k_ rfl rfl rfl L_) rfl ?_)))))))))
  refine a_ (u_ 0 P_ rfl rfl rfl) rfl (a_ (l_ k_ rfl rfl rfl L_) rfl (a_ (u_ 0 P_ rfl rfl rfl) rfl (W_ (mf_ (Fc.a f) (Pc.r x1) (Pc.lo x1) (Pc.hi x1)) rfl I_ (fun _ _ _ => by exact trivial) rfl fun _ => ?_)))
  refine ao_ ak_ rfl fun b3 => ?_
  refine Q_ 0 B_ rfl rfl rfl rfl rfl rfl (e_ (b_ rfl (h_ (h_ ?_))))
  refine aS_ (by kernel_rfl) ?_
  refine ah_ 0 [0, 1, 2, 3, 4, 5, 6] (by kernel_rfl) (fun _ a b => ⟨a, b⟩) (n_ rfl (d_ rfl) rfl (n_ rfl (ar_ rfl) rfl (n_ rfl (l_ J_ rfl rfl rfl bW_) rfl (n_ rfl (al_ cz_ rfl (fun v _ h => by exact h.1) rfl) rfl (n_ rfl (Y_ 0 ai_ B_ rfl rfl rfl) rfl ?_)))))
  refine cl_ rfl (gB_ (f := (aP_ (Fc.a f) (Pc.r x1) (Pc.lo x1) (Pc.hi x1))) hS_i gr_ bq_ dK_ rfl rfl (f_ (f_ S_))) rfl fun r2 hr2 => ?_
  refine n_ rfl (ce_ rfl) rfl (ag_ (ac_ (by kernel_rfl) (b_ rfl ?_)))
  cases r2
  ·
   replace hr2 := of_decide_eq_false hr2
   refine t_ rfl ?_
   refine aR_ ((b3, .cells #[.int .i64 (Fc.kind (aP_ (Fc.a f) (Pc.r x1) (Pc.lo x1) (Pc.hi x1))), str (Fc.a (aP_ (Fc.a f) (Pc.r x1) (Pc.lo x1) (Pc.hi x1))), str (Fc.b (aP_ (Fc.a f) (Pc.r x1) (Pc.lo x1) (Pc.hi x1))), str (Fc.r (aP_ (Fc.a f) (Pc.r x1) (Pc.lo x1) (Pc.hi x1))), .int .i64 (Fc.lo (aP_ (Fc.a f) (Pc.r x1) (Pc.lo x1) (Pc.hi x1))), .int .i64 (Fc.hi (aP_ (Fc.a f) (Pc.r x1) (Pc.lo x1) (Pc.hi x1)))] 41 (0, 0)) :: ((b2, .cells (Pc.cells x1).toArray 47 (0, 0)) :: ((b1, .cells (Fc.cells f).toArray 41 (0, 0)) :: []))) (by kernel_rfl) ?_
   refine ah_ 1 [0, 1, 2, 3, 4] (by kernel_rfl) (fun _ a b => ⟨Vw.sat.sub (a.perm (m_ i_ (m_ i_ i_))), b⟩) (n_ rfl (d_ rfl) rfl (n_ rfl (ar_ rfl) rfl (n_ rfl (l_ J_ rfl rfl rfl bW_) rfl (n_ rfl (al_ cz_ rfl (fun v _ h => by exact h.1) rfl) rfl (n_ rfl (Y_ 0 ai_ B_ rfl rfl rfl) rfl (ag_ (X_ 5 rfl (by kernel_rfl) (oO_ (f := (aP_ (Fc.a f) (Pc.r x1) (Pc.lo x1) (Pc.hi x1))) hS_i gr_ (.inr rfl) bq_ rfl rfl rfl (f_ (f_ S_)) fun Hs1 hS1 => ?_))))))))
   refine e_ (w_ rfl (N_ (fun _ a b => ⟨Vw.sat.sub (a.perm (m_ (s_ i_) (m_ (s_ i_) bj_))), b⟩) (ac_ (by kernel_rfl) (b_ rfl ?_))))
   refine aR_ ((b3, .cells #[.int .i64 (Fc.kind (aP_ (Fc.a f) (Pc.r x1) (Pc.lo x1) (Pc.hi x1))), str (Fc.a (aP_ (Fc.a f) (Pc.r x1) (Pc.lo x1) (Pc.hi x1))), str (Fc.b (aP_ (Fc.a f) (Pc.r x1) (Pc.lo x1) (Pc.hi x1))), str (Fc.r (aP_ (Fc.a f) (Pc.r x1) (Pc.lo x1) (Pc.hi x1))), .int .i64 (Fc.lo (aP_ (Fc.a f) (Pc.r x1) (Pc.lo x1) (Pc.hi x1))), .int .i64 (Fc.hi (aP_ (Fc.a f) (Pc.r x1) (Pc.lo x1) (Pc.hi x1)))] 41 (0, 0)) :: ((b2, .cells (Pc.cells x1).toArray 47 (0, 0)) :: ((b1, .cells (Fc.cells f).toArray 41 (0, 0)) :: []))) (by kernel_rfl) ?_
   refine ah_ 1 [0, 1, 2, 3, 4] (by kernel_rfl) (fun _ a b => ⟨Vw.sat.sub (a.perm (m_ (s_ i_) (m_ (s_ i_) bj_))), b⟩) (n_ rfl (d_ rfl) rfl (n_ rfl (ar_ rfl) rfl (n_ rfl (l_ J_ rfl rfl rfl be_) rfl (n_ rfl (al_ bJ_ rfl (fun v _ h => by exact h.1) rfl) rfl (n_ rfl (Y_ 0 ai_ B_ rfl rfl rfl) rfl (ag_ (X_ 5 rfl (by kernel_rfl) (bh_ (first := []) (cap := E.caps) (E.emit (aP_ (Fc.a f) (Pc.r x1) (Pc.lo x1) (Pc.hi x1)) (Prod.fst (cD_ E.stp E.kof f (List.take i (lat pm (Ky.mk 8 [] (Fc.b f)))) (nw, fm))) ((aP_ (Fc.a f) (Pc.r x1) (Pc.lo x1) (Pc.hi x1)) :: (Prod.snd (cD_ E.stp E.kof f (List.take i (lat pm (Ky.mk 8 [] (Fc.b f)))) (nw, fm)))) Hs1 hS1) rfl rfl E_ (fun v _ h => by exact ⟨h.2.2.2.2.2.2.2.2.1, trivial⟩) rfl fun ⟨Hs2, hS2⟩ => ?_))))))))
   dsimp only
   refine e_ (w_ rfl (N_ (fun _ a b => ⟨Vw.sat.sub (a.perm (m_ (s_ i_) (m_ (s_ i_) bj_))), b⟩) (ac_ (by kernel_rfl) (b_ rfl (c_ (a_ (M_ rfl rfl rfl (af_ (by omega) (by omega))) rfl (a_ (d_ rfl) rfl (e_ (w_ rfl ?_)))))))))
   exact Z_ ⟨(i + 1, Hs2), hlx1, (by rw [iy_ hx1]; dsimp only; first | (rw [if_pos (by assumption)]; exact hS2) | (rw [if_neg (by assumption)]; exact hS2))⟩ (by dsimp only; omega) ⟨rfl, rfl, rfl, rfl, rfl, trivial⟩ (m_ (s_ (f_ (f_ i_))) E_) (fun _ _ h => h)
  ·
   replace hr2 := of_decide_eq_true hr2
   refine v_ rfl (z_ (b_ rfl ?_))
   refine aR_ ((b3, .cells #[.int .i64 (Fc.kind (aP_ (Fc.a f) (Pc.r x1) (Pc.lo x1) (Pc.hi x1))), str (Fc.a (aP_ (Fc.a f) (Pc.r x1) (Pc.lo x1) (Pc.hi x1))), str (Fc.b (aP_ (Fc.a f) (Pc.r x1) (Pc.lo x1) (Pc.hi x1))), str (Fc.r (aP_ (Fc.a f) (Pc.r x1) (Pc.lo x1) (Pc.hi x1))), .int .i64 (Fc.lo (aP_ (Fc.a f) (Pc.r x1) (Pc.lo x1) (Pc.hi x1))), .int .i64 (Fc.hi (aP_ (Fc.a f) (Pc.r x1) (Pc.lo x1) (Pc.hi x1)))] 41 (0, 0)) :: ((b2, .cells (Pc.cells x1).toArray 47 (0, 0)) :: ((b1, .cells (Fc.cells f).toArray 41 (0, 0)) :: []))) (by kernel_rfl) ?_
   refine ah_ 1 [0, 1, 2, 3, 4] (by kernel_rfl) (fun _ a b => ⟨Vw.sat.sub (a.perm (m_ i_ (m_ i_ i_))), b⟩) (n_ rfl (d_ rfl) rfl (n_ rfl (ar_ rfl) rfl (n_ rfl (l_ J_ rfl rfl rfl be_) rfl (n_ rfl (al_ bJ_ rfl (fun v _ h => by exact h.1) rfl) rfl (n_ rfl (Y_ 0 ai_ B_ rfl rfl rfl) rfl (ag_ (X_ 5 rfl (by kernel_rfl) (bh_ (first := []) (cap := E.caps) (E.emit (aP_ (Fc.a f) (Pc.r x1) (Pc.lo x1) (Pc.hi x1)) (Prod.fst (cD_ E.stp E.kof f (List.take i (lat pm (Ky.mk 8 [] (Fc.b f)))) (nw, fm))) (Prod.snd (cD_ E.stp E.kof f (List.take i (lat pm (Ky.mk 8 [] (Fc.b f)))) (nw, fm))) Hs_i hS_i) rfl rfl (f_ (f_ S_)) (fun v _ h => by exact ⟨h.2.2.2.2.2.2.2.2.1, trivial⟩) rfl fun ⟨Hs3, hS3⟩ => ?_))))))))
   dsimp only
   refine e_ (w_ rfl (N_ (fun _ a b => ⟨Vw.sat.sub (a.perm (m_ (s_ i_) (m_ (s_ i_) bj_))), b⟩) (ac_ (by kernel_rfl) (b_ rfl (c_ (a_ (M_ rfl rfl rfl (af_ (by omega) (by omega))) rfl (a_ (d_ rfl) rfl (e_ (w_ rfl ?_)))))))))
   exact Z_ ⟨(i + 1, Hs3), hlx1, (by rw [iy_ hx1]; dsimp only; first | (rw [if_pos (by assumption)]; exact hS3) | (rw [if_neg (by assumption)]; exact hS3))⟩ (by dsimp only; omega) ⟨rfl, rfl, rfl, rfl, rfl, trivial⟩ (m_ (s_ (f_ (f_ i_))) E_) (fun _ _ h => h)
theorem mA_ (B : EngB) (E : Emt Tryz.prog 41) (A : EngA) (pm : List (Ky × Pc)) (x : Ix) (f : Fc) (nw fm : List Fc) (Hs : Hp) (hS : E.St nw fm Hs) (hpl : ∀ k, (lat pm k).length ≤ 1000000000) (hxl : ∀ k, (lat x.above k).length ≤ 1000000000 ∧ (lat x.under k).length ≤ 1000000000) (hyl : ∀ k, (lat x.frm k).length ≤ 1000000000 ∧ (lat x.into k).length ≤ 1000000000 ∧ (lat x.ranges k).length ≤ 1000000000 ∧ (lat x.firms k).length ≤ 1000000000) : Tri Tryz.prog 103 #[zp_ B.g 0, Fc.val f] Hs [gF B E, pF B pm A, aF B x A, uF B x A, oF B x A, iF B x A, rF B x A, sF B x A, E.ef] (fun _ : {H' : Hp // E.St (emits E.stp (fa_ pm x f) nw) fm H'} => .tuple #[]) (fun y => y.1) (fun _ => []) := by
 refine T_ Tryz.func103 rfl rfl Tryz.ntmps103 rfl fun v0 => ?_
 refine h_ (c_ (bs_ rfl rfl fun b1 => ?_))
 refine e_ (b_ rfl (h_ ?_))
 refine aS_ (by kernel_rfl) ?_
 refine ah_ 0 [0, 1, 2, 3, 4, 5, 6, 7, 8, 9] (by kernel_rfl) (fun _ a b => ⟨a, b⟩) (n_ rfl (d_ rfl) rfl (n_ rfl (ar_ rfl) rfl (n_ rfl (l_ J_ rfl rfl rfl dy_) rfl (n_ rfl (al_ ed_ rfl (fun v _ h => by exact h.1) rfl) rfl (n_ rfl (l_ o_ rfl rfl rfl j_) rfl (n_ rfl (u_ 0 q_ rfl rfl rfl) rfl (n_ rfl (ap_ eq_ rfl rfl) rfl (n_ rfl (cx_ (k := (Ky.mk 4 [] (Fc.b f))) (adr := A.p) gf_ ci_ cr_ rfl rfl (fun v _ h => by exact h.2.1)) rfl (n_ rfl (am_ A_ rfl) rfl ?_)))))))))
 refine n_ rfl (d_ rfl) rfl (ag_ (ac_ (by kernel_rfl) (b_ rfl (R_ ?_))))
 refine aL_ (ι := {y : Nat × Hp // y.1 ≤ List.length (lat pm (Ky.mk 4 [] (Fc.b f))) ∧ E.St (emits E.stp (List.flatMap (fun y => List.map (fun a => an_ a (Pc.c y)) (lat x.into (Fc.a f, Pc.r y))) (List.take y.1 (lat pm (Ky.mk 4 [] (Fc.b f))))) nw) fm y.2}) (fun y => [(0, zp_ B.g 0), (3, zp_ b1 0), (15, .slice (Prod.fst (A.p (Ky.mk 4 [] (Fc.b f)))) (List.length (lat pm (Ky.mk 4 [] (Fc.b f)))) (Prod.snd (A.p (Ky.mk 4 [] (Fc.b f))))), (16, .int .i64 (List.length (lat pm (Ky.mk 4 [] (Fc.b f))) : Int)), (17, .int .i64 (y.1.1 : Int))]) (fun y => ((b1, .cells (Fc.cells f).toArray 41 (0, 0)) :: y.1.2)) (fun y => [gF B E, pF B pm A, aF B x A, uF B x A, oF B x A, iF B x A, rF B x A, sF B x A, E.ef]) (fun y => List.length (lat pm (Ky.mk 4 [] (Fc.b f))) - y.1.1) ⟨((0 : Nat), Hs), by simp, by exact hS⟩ ⟨rfl, rfl, rfl, rfl, rfl, trivial⟩ (m_ i_ aD_) (fun _ _ h => h) ?_
 rintro ⟨⟨i, Hs_i⟩, hi_i, hS_i⟩
 dsimp only at hi_i hS_i ⊢
 have hb_i := hpl (Ky.mk 4 [] (Fc.b f))
 refine h_ (c_ (x_ (av_ rfl rfl) rfl fun r1 hr1 => ?_))
 refine e_ (b_ rfl (h_ ?_))
 cases r1
 ·
  replace hr1 := of_decide_eq_false hr1
  refine v_ rfl (au_ rfl (bx_ rfl ?_))
  exact dv_ Tryz.results103 ⟨Hs_i, by unfold fa_; rw [List.take_of_length_le (by omega)] at hS_i; exact hS_i⟩ rfl S_ (fun _ _ _ => trivial)
 ·
  replace hr1 := of_decide_eq_true hr1
  have hlx1 : i < List.length (lat pm (Ky.mk 4 [] (Fc.b f))) := by omega
  obtain ⟨x1, hx1⟩ : ∃ e0, (lat pm (Ky.mk 4 [] (Fc.b f)))[i]? = some e0 := ⟨_, List.getElem?_eq_getElem hlx1⟩
  have hmx1 : x1 ∈ (lat pm (Ky.mk 4 [] (Fc.b f))) := List.mem_of_getElem? hx1
  refine t_ rfl (z_ (b_ rfl (h_ (R_ (h_ (c_ (a_ (aa_ A_ K_ rfl rfl (fun v _ h => ay_ (n := 10) Pc.cells_len (by decide) (by exact (bO_ h.2.1 (Ky.mk 4 [] (Fc.b f)))) hx1) (by omega) (by first | omega | (simp; done))) rfl (a_ (aU_ (ad := (Prod.fst (A.p (Ky.mk 4 [] (Fc.b f))))) (us := Pc.cells x1) aG_ K_ rfl (fun v _ h => by exact (bO_ h.2.1 (Ky.mk 4 [] (Fc.b f)))) (Pc.cells_len _) (ad_ Pc.cells_len hx1)) rfl (ao_ aX_ rfl fun b2 => ?_)))))))))
  refine Q_ 0 K_ rfl rfl rfl rfl rfl rfl (e_ (b_ rfl (h_ ?_)))
  refine aS_ (by kernel_rfl) ?_
  refine ah_ 0 [0, 1, 2, 3, 4, 5, 6, 7, 8, 9, 10, 11] (by kernel_rfl) (fun _ a b => ⟨a, b⟩) (n_ rfl (d_ rfl) rfl (n_ rfl (ar_ rfl) rfl (n_ rfl (l_ J_ rfl rfl rfl dx_) rfl (n_ rfl (al_ ec_ rfl (fun v _ h => by exact h.1) rfl) rfl (n_ rfl (l_ o_ rfl rfl rfl j_) rfl (n_ rfl (u_ 1 q_ rfl rfl rfl) rfl (n_ rfl (l_ k_ rfl rfl rfl j_) rfl (n_ rfl (u_ 0 q_ rfl rfl rfl) rfl (n_ rfl (ap_ eT_ rfl rfl) rfl ?_)))))))))
  refine n_ rfl (cx_ (k := ((Fc.a f), (Pc.r x1))) (adr := A.i) cX_ ch_ bI_ rfl rfl (fun v _ h => by exact h.2.2.2.2.2.1)) rfl (n_ rfl (am_ D_ rfl) rfl (n_ rfl (d_ rfl) rfl (ag_ (ac_ (by kernel_rfl) (b_ rfl (R_ ?_))))))
  refine aL_ (ι := {y : Nat × Hp // y.1 ≤ List.length (lat x.into ((Fc.a f), (Pc.r x1))) ∧ E.St (emits E.stp (List.map (fun a => an_ a (Pc.c x1)) (List.take y.1 (lat x.into ((Fc.a f), (Pc.r x1))))) (emits E.stp (List.flatMap (fun y => List.map (fun a => an_ a (Pc.c y)) (lat x.into (Fc.a f, Pc.r y))) (List.take i (lat pm (Ky.mk 4 [] (Fc.b f))))) nw)) fm y.2}) (fun y => [(0, zp_ B.g 0), (3, zp_ b1 0), (15, .slice (Prod.fst (A.p (Ky.mk 4 [] (Fc.b f)))) (List.length (lat pm (Ky.mk 4 [] (Fc.b f)))) (Prod.snd (A.p (Ky.mk 4 [] (Fc.b f))))), (16, .int .i64 (List.length (lat pm (Ky.mk 4 [] (Fc.b f))) : Int)), (17, .int .i64 (i : Int)), (5, zp_ b2 0), (30, .slice (Prod.fst (A.i ((Fc.a f), (Pc.r x1)))) (List.length (lat x.into ((Fc.a f), (Pc.r x1)))) (Prod.snd (A.i ((Fc.a f), (Pc.r x1))))), (31, .int .i64 (List.length (lat x.into ((Fc.a f), (Pc.r x1))) : Int)), (32, .int .i64 (y.1.1 : Int))]) (fun y => ((b2, .cells (Pc.cells x1).toArray 47 (0, 0)) :: ((b1, .cells (Fc.cells f).toArray 41 (0, 0)) :: y.1.2))) (fun y => [gF B E, pF B pm A, aF B x A, uF B x A, oF B x A, iF B x A, rF B x A, sF B x A, E.ef]) (fun y => List.length (lat x.into ((Fc.a f), (Pc.r x1))) - y.1.1) ⟨((0 : Nat), Hs_i), by simp, by exact hS_i⟩ ⟨rfl, rfl, rfl, rfl, rfl, rfl, rfl, rfl, rfl, trivial⟩ (m_ i_ (m_ i_ aD_)) (fun _ _ h => h) ?_
  rintro ⟨⟨j, Hs_j⟩, hi_j, hS_j⟩
  dsimp only at hi_j hS_j ⊢
  have hb_j := (hyl ((Fc.a f), (Pc.r x1))).2.1
  refine h_ (c_ (x_ (av_ rfl rfl) rfl fun r2 hr2 => ?_))
  refine e_ (b_ rfl (h_ ?_))
  cases r2
  ·
   replace hr2 := of_decide_eq_false hr2
   refine v_ rfl (au_ rfl (b_ rfl (c_ (a_ (M_ rfl rfl rfl (af_ (by omega) (by omega))) rfl (a_ (d_ rfl) rfl (e_ (w_ rfl ?_)))))))
   exact Z_ ⟨(i + 1, Hs_j), hlx1, (by rw [fG_ hx1, aV_]; have e9 : List.take j (lat x.into (Fc.a f, Pc.r x1)) = (lat x.into (Fc.a f, Pc.r x1)) := List.take_of_length_le (by omega); rw [e9] at hS_j; exact hS_j)⟩ (by dsimp only; omega) ⟨rfl, rfl, rfl, rfl, rfl, trivial⟩ (m_ (f_ i_) S_) (fun _ _ h => h)
  ·
   replace hr2 := of_decide_eq_true hr2
   have hlx2 : j < List.length (lat x.into ((Fc.a f), (Pc.r x1))) := by omega
   obtain ⟨x2, hx2⟩ : ∃ e0, (lat x.into ((Fc.a f), (Pc.r x1)))[j]? = some e0 := ⟨_, List.getElem?_eq_getElem hlx2⟩
   have hmx2 : x2 ∈ (lat x.into ((Fc.a f), (Pc.r x1))) := List.mem_of_getElem? hx2
   refine t_ rfl (z_ (b_ rfl (h_ (R_ (h_ (c_ (a_ (aa_ D_ j_ rfl rfl (fun v _ h => ay_ (n := 1) at_ (by decide) (by exact (bO_ h.2.2.2.2.2.1 ((Fc.a f), (Pc.r x1)))) hx2) (by omega) (by first | omega | (simp; done))) rfl (a_ (aN_ (ad := (Prod.fst (A.i ((Fc.a f), (Pc.r x1))))) q_ rfl (fun v _ h => by exact (bO_ h.2.2.2.2.2.1 ((Fc.a f), (Pc.r x1)))) (ad_ at_ hx2 0 _ rfl)) rfl (a_ (g_ rfl) rfl ?_)))))))))
   refine e_ (b_ rfl ?_)
   refine aR_ ((b2, .cells (Pc.cells x1).toArray 47 (0, 0)) :: ((b1, .cells (Fc.cells f).toArray 41 (0, 0)) :: [])) (by kernel_rfl) ?_
   refine ah_ 2 [0, 1, 2, 3, 4, 5, 6] (by kernel_rfl) (fun _ a b => ⟨Vw.sat.sub (a.perm (m_ i_ i_)), b⟩) (n_ rfl (d_ rfl) rfl (n_ rfl (ar_ rfl) rfl (n_ rfl (l_ J_ rfl rfl rfl be_) rfl (n_ rfl (al_ bJ_ rfl (fun v _ h => by exact h.1) rfl) rfl (n_ rfl (d_ rfl) rfl (n_ rfl (l_ k_ rfl rfl rfl j_) rfl (n_ rfl (u_ 0 q_ rfl rfl rfl) rfl (ag_ (X_ 7 rfl (by kernel_rfl) ?_)))))))))
   refine W_ (fg_ x2 (Pc.c x1)) rfl I_ (fun _ _ _ => by exact trivial) rfl fun _ => ?_
   refine e_ (w_ rfl (N_ (fun _ a b => ⟨Vw.sat.sub (a.perm (m_ i_ i_)), b⟩) (X_ 8 rfl (by kernel_rfl) (bh_ (first := []) (cap := E.caps) (E.emit (an_ x2 (Pc.c x1)) (emits E.stp (List.map (fun a => an_ a (Pc.c x1)) (List.take j (lat x.into ((Fc.a f), (Pc.r x1))))) (emits E.stp (List.flatMap (fun y => List.map (fun a => an_ a (Pc.c y)) (lat x.into (Fc.a f, Pc.r y))) (List.take i (lat pm (Ky.mk 4 [] (Fc.b f))))) nw)) fm Hs_j hS_j) rfl rfl (f_ S_) (fun v _ h => by exact ⟨h.2.2.2.2.2.2.2.2.1, trivial⟩) rfl fun ⟨Hs1, hS1⟩ => ?_))))
   dsimp only
   refine e_ (w_ rfl (N_ (fun _ a b => ⟨Vw.sat.sub (a.perm (m_ (s_ i_) bj_)), b⟩) (ac_ (by kernel_rfl) (b_ rfl (c_ (a_ (M_ rfl rfl rfl (af_ (by omega) (by omega))) rfl (a_ (d_ rfl) rfl (e_ (w_ rfl ?_)))))))))
   exact Z_ ⟨(j + 1, Hs1), hlx2, (by rw [eu_ hx2, aV_]; exact hS1)⟩ (by dsimp only; omega) ⟨rfl, rfl, rfl, rfl, rfl, rfl, rfl, rfl, rfl, trivial⟩ (m_ (s_ i_) (m_ bj_ aD_)) (fun _ _ h => h)
theorem mz_ (B : EngB) (E : Emt Tryz.prog 41) (A : EngA) (pm : List (Ky × Pc)) (x : Ix) (f : Fc) (nw fm : List Fc) (Hs : Hp) (hS : E.St nw fm Hs) (hpl : ∀ k, (lat pm k).length ≤ 1000000000) (hxl : ∀ k, (lat x.above k).length ≤ 1000000000 ∧ (lat x.under k).length ≤ 1000000000) (hyl : ∀ k, (lat x.frm k).length ≤ 1000000000 ∧ (lat x.into k).length ≤ 1000000000 ∧ (lat x.ranges k).length ≤ 1000000000 ∧ (lat x.firms k).length ≤ 1000000000) : Tri Tryz.prog 108 #[zp_ B.g 0, Fc.val f] Hs [gF B E, pF B pm A, aF B x A, uF B x A, oF B x A, iF B x A, rF B x A, sF B x A, E.ef] (fun _ : {H' : Hp // E.St (emits E.stp (eZ_ pm x f) nw) fm H'} => .tuple #[]) (fun y => y.1) (fun _ => []) := by
 refine T_ Tryz.func108 rfl rfl Tryz.ntmps108 rfl fun v0 => ?_
 refine h_ (c_ (bs_ rfl rfl fun b1 => ?_))
 refine e_ (b_ rfl (h_ ?_))
 refine aS_ (by kernel_rfl) ?_
 refine ah_ 0 [0, 1, 2, 3, 4, 5, 6, 7, 8] (by kernel_rfl) (fun _ a b => ⟨a, b⟩) (n_ rfl (d_ rfl) rfl (n_ rfl (ar_ rfl) rfl (n_ rfl (l_ J_ rfl rfl rfl hf_) rfl (n_ rfl (al_ mv_ rfl (fun v _ h => by exact h.1) rfl) rfl (n_ rfl (l_ o_ rfl rfl rfl j_) rfl (n_ rfl (u_ 0 q_ rfl rfl rfl) rfl (n_ rfl (cx_ (k := (Fc.b f)) (adr := A.a) hu_ cE_ bI_ rfl rfl (fun v _ h => by exact h.2.2.1)) rfl (n_ rfl (am_ D_ rfl) rfl (n_ rfl (d_ rfl) rfl ?_)))))))))
 refine ag_ (ac_ (by kernel_rfl) (b_ rfl (R_ ?_)))
 refine aL_ (ι := {y : Nat × Hp // y.1 ≤ List.length (lat x.above (Fc.b f)) ∧ E.St (emits E.stp (List.flatMap (fun y => List.map (fun a => an_ (Fc.a f) (Pc.c a)) (lat pm (Ky.mk 4 (Fc.r f) y))) (List.take y.1 (lat x.above (Fc.b f)))) nw) fm y.2}) (fun y => [(0, zp_ B.g 0), (3, zp_ b1 0), (14, .slice (Prod.fst (A.a (Fc.b f))) (List.length (lat x.above (Fc.b f))) (Prod.snd (A.a (Fc.b f)))), (15, .int .i64 (List.length (lat x.above (Fc.b f)) : Int)), (16, .int .i64 (y.1.1 : Int))]) (fun y => ((b1, .cells (Fc.cells f).toArray 41 (0, 0)) :: y.1.2)) (fun y => [gF B E, pF B pm A, aF B x A, uF B x A, oF B x A, iF B x A, rF B x A, sF B x A, E.ef]) (fun y => List.length (lat x.above (Fc.b f)) - y.1.1) ⟨((0 : Nat), Hs), by simp, by exact hS⟩ ⟨rfl, rfl, rfl, rfl, rfl, trivial⟩ (m_ i_ aD_) (fun _ _ h => h) ?_
 rintro ⟨⟨i, Hs_i⟩, hi_i, hS_i⟩
 dsimp only at hi_i hS_i ⊢
 have hb_i := (hxl (Fc.b f)).1
 refine h_ (c_ (x_ (av_ rfl rfl) rfl fun r1 hr1 => ?_))
 refine e_ (b_ rfl (h_ ?_))
 cases r1
 ·
  replace hr1 := of_decide_eq_false hr1
  refine v_ rfl (au_ rfl (bx_ rfl ?_))
  exact dv_ Tryz.results108 ⟨Hs_i, by unfold eZ_; rw [List.take_of_length_le (by omega)] at hS_i; exact hS_i⟩ rfl S_ (fun _ _ _ => trivial)
 ·
  replace hr1 := of_decide_eq_true hr1
  have hlx1 : i < List.length (lat x.above (Fc.b f)) := by omega
  obtain ⟨x1, hx1⟩ : ∃ e0, (lat x.above (Fc.b f))[i]? = some e0 := ⟨_, List.getElem?_eq_getElem hlx1⟩
  have hmx1 : x1 ∈ (lat x.above (Fc.b f)) := List.mem_of_getElem? hx1
  refine t_ rfl (z_ (b_ rfl (h_ (R_ (h_ (c_ (a_ (aa_ D_ j_ rfl rfl (fun v _ h => ay_ (n := 1) at_ (by decide) (by exact (bO_ h.2.2.1 (Fc.b f))) hx1) (by omega) (by first | omega | (simp; done))) rfl (a_ (aN_ (ad := (Prod.fst (A.a (Fc.b f)))) q_ rfl (fun v _ h => by exact (bO_ h.2.2.1 (Fc.b f))) (ad_ at_ hx1 0 _ rfl)) rfl (a_ (g_ rfl) rfl ?_)))))))))
  refine e_ (b_ rfl (h_ ?_))
  refine aS_ (by kernel_rfl) ?_
  refine ah_ 0 [0, 1, 2, 3, 4, 5, 6, 7, 8, 9, 10] (by kernel_rfl) (fun _ a b => ⟨a, b⟩) (n_ rfl (d_ rfl) rfl (n_ rfl (ar_ rfl) rfl (n_ rfl (l_ J_ rfl rfl rfl dy_) rfl (n_ rfl (al_ ed_ rfl (fun v _ h => by exact h.1) rfl) rfl (n_ rfl (l_ o_ rfl rfl rfl j_) rfl (n_ rfl (u_ 0 q_ rfl rfl rfl) rfl (n_ rfl (d_ rfl) rfl (n_ rfl (ap_ eq_ rfl rfl) rfl (n_ rfl (cx_ (k := (Ky.mk 4 (Fc.r f) x1)) (adr := A.p) gf_ ci_ cr_ rfl rfl (fun v _ h => by exact h.2.1)) rfl ?_)))))))))
  refine n_ rfl (am_ A_ rfl) rfl (n_ rfl (d_ rfl) rfl (ag_ (ac_ (by kernel_rfl) (b_ rfl (R_ ?_)))))
  refine aL_ (ι := {y : Nat × Hp // y.1 ≤ List.length (lat pm (Ky.mk 4 (Fc.r f) x1)) ∧ E.St (emits E.stp (List.map (fun a => an_ (Fc.a f) (Pc.c a)) (List.take y.1 (lat pm (Ky.mk 4 (Fc.r f) x1)))) (emits E.stp (List.flatMap (fun y => List.map (fun a => an_ (Fc.a f) (Pc.c a)) (lat pm (Ky.mk 4 (Fc.r f) y))) (List.take i (lat x.above (Fc.b f)))) nw)) fm y.2}) (fun y => [(0, zp_ B.g 0), (3, zp_ b1 0), (14, .slice (Prod.fst (A.a (Fc.b f))) (List.length (lat x.above (Fc.b f))) (Prod.snd (A.a (Fc.b f)))), (15, .int .i64 (List.length (lat x.above (Fc.b f)) : Int)), (16, .int .i64 (i : Int)), (28, .slice (Prod.fst (A.p (Ky.mk 4 (Fc.r f) x1))) (List.length (lat pm (Ky.mk 4 (Fc.r f) x1))) (Prod.snd (A.p (Ky.mk 4 (Fc.r f) x1)))), (29, .int .i64 (List.length (lat pm (Ky.mk 4 (Fc.r f) x1)) : Int)), (30, .int .i64 (y.1.1 : Int))]) (fun y => ((b1, .cells (Fc.cells f).toArray 41 (0, 0)) :: y.1.2)) (fun y => [gF B E, pF B pm A, aF B x A, uF B x A, oF B x A, iF B x A, rF B x A, sF B x A, E.ef]) (fun y => List.length (lat pm (Ky.mk 4 (Fc.r f) x1)) - y.1.1) ⟨((0 : Nat), Hs_i), by simp, by exact hS_i⟩ ⟨rfl, rfl, rfl, rfl, rfl, rfl, rfl, rfl, trivial⟩ (m_ i_ aD_) (fun _ _ h => h) ?_
  rintro ⟨⟨j, Hs_j⟩, hi_j, hS_j⟩
  dsimp only at hi_j hS_j ⊢
  have hb_j := hpl (Ky.mk 4 (Fc.r f) x1)
  refine h_ (c_ (x_ (av_ rfl rfl) rfl fun r2 hr2 => ?_))
  refine e_ (b_ rfl (h_ ?_))
  cases r2
  ·
   replace hr2 := of_decide_eq_false hr2
   refine v_ rfl (au_ rfl (b_ rfl (c_ (a_ (M_ rfl rfl rfl (af_ (by omega) (by omega))) rfl (a_ (d_ rfl) rfl (e_ (w_ rfl ?_)))))))
   exact Z_ ⟨(i + 1, Hs_j), hlx1, (by rw [fG_ hx1, aV_]; have e9 : List.take j (lat pm (Ky.mk 4 (Fc.r f) x1)) = (lat pm (Ky.mk 4 (Fc.r f) x1)) := List.take_of_length_le (by omega); rw [e9] at hS_j; exact hS_j)⟩ (by dsimp only; omega) ⟨rfl, rfl, rfl, rfl, rfl, trivial⟩ (m_ i_ aD_) (fun _ _ h => h)
  ·
   replace hr2 := of_decide_eq_true hr2
   have hlx2 : j < List.length (lat pm (Ky.mk 4 (Fc.r f) x1)) := by omega
   obtain ⟨x2, hx2⟩ : ∃ e0, (lat pm (Ky.mk 4 (Fc.r f) x1))[j]? = some e0 := ⟨_, List.getElem?_eq_getElem hlx2⟩
   have hmx2 : x2 ∈ (lat pm (Ky.mk 4 (Fc.r f) x1)) := List.mem_of_getElem? hx2
   refine t_ rfl (z_ (b_ rfl (h_ (R_ (h_ (c_ (a_ (aa_ A_ K_ rfl rfl (fun v _ h => ay_ (n := 10) Pc.cells_len (by decide) (by exact (bO_ h.2.1 (Ky.mk 4 (Fc.r f) x1))) hx2) (by omega) (by first | omega | (simp; done))) rfl (a_ (aU_ (ad := (Prod.fst (A.p (Ky.mk 4 (Fc.r f) x1)))) (us := Pc.cells x2) aG_ K_ rfl (fun v _ h => by exact (bO_ h.2.1 (Ky.mk 4 (Fc.r f) x1))) (Pc.cells_len _) (ad_ Pc.cells_len hx2)) rfl (ao_ aX_ rfl fun b2 => ?_)))))))))
   refine Q_ 0 K_ rfl rfl rfl rfl rfl rfl (e_ (b_ rfl ?_))
   refine aR_ ((b2, .cells (Pc.cells x2).toArray 47 (0, 0)) :: ((b1, .cells (Fc.cells f).toArray 41 (0, 0)) :: [])) (by kernel_rfl) ?_
   refine ah_ 2 [0, 1, 2, 3, 4, 5, 6, 7] (by kernel_rfl) (fun _ a b => ⟨Vw.sat.sub (a.perm (m_ i_ i_)), b⟩) (n_ rfl (d_ rfl) rfl (n_ rfl (ar_ rfl) rfl (n_ rfl (l_ J_ rfl rfl rfl be_) rfl (n_ rfl (al_ bJ_ rfl (fun v _ h => by exact h.1) rfl) rfl (n_ rfl (l_ o_ rfl rfl rfl j_) rfl (n_ rfl (u_ 1 q_ rfl rfl rfl) rfl (n_ rfl (l_ k_ rfl rfl rfl j_) rfl (n_ rfl (u_ 0 q_ rfl rfl rfl) rfl (ag_ ?_)))))))))
   refine X_ 8 rfl (by kernel_rfl) (W_ (fg_ (Fc.a f) (Pc.c x2)) rfl I_ (fun _ _ _ => by exact trivial) rfl fun _ => ?_)
   refine e_ (w_ rfl (N_ (fun _ a b => ⟨Vw.sat.sub (a.perm (m_ i_ i_)), b⟩) (X_ 9 rfl (by kernel_rfl) (bh_ (first := []) (cap := E.caps) (E.emit (an_ (Fc.a f) (Pc.c x2)) (emits E.stp (List.map (fun a => an_ (Fc.a f) (Pc.c a)) (List.take j (lat pm (Ky.mk 4 (Fc.r f) x1)))) (emits E.stp (List.flatMap (fun y => List.map (fun a => an_ (Fc.a f) (Pc.c a)) (lat pm (Ky.mk 4 (Fc.r f) y))) (List.take i (lat x.above (Fc.b f)))) nw)) fm Hs_j hS_j) rfl rfl (f_ S_) (fun v _ h => by exact ⟨h.2.2.2.2.2.2.2.2.1, trivial⟩) rfl fun ⟨Hs1, hS1⟩ => ?_))))
   dsimp only
   refine e_ (w_ rfl (N_ (fun _ a b => ⟨Vw.sat.sub (a.perm (m_ (s_ i_) bj_)), b⟩) (ac_ (by kernel_rfl) (b_ rfl (c_ (a_ (M_ rfl rfl rfl (af_ (by omega) (by omega))) rfl (a_ (d_ rfl) rfl (e_ (w_ rfl ?_)))))))))
   exact Z_ ⟨(j + 1, Hs1), hlx2, (by rw [eu_ hx2, aV_]; exact hS1)⟩ (by dsimp only; omega) ⟨rfl, rfl, rfl, rfl, rfl, rfl, rfl, rfl, trivial⟩ (m_ (s_ (f_ i_)) E_) (fun _ _ h => h)
theorem qq_ (B : EngB) (E : Emt Tryz.prog 41) (A : EngA) (pm : List (Ky × Pc)) (x : Ix) (f : Fc) (nw fm : List Fc) (Hs : Hp) (hS : E.St nw fm Hs) (hpl : ∀ k, (lat pm k).length ≤ 1000000000) (hxl : ∀ k, (lat x.above k).length ≤ 1000000000 ∧ (lat x.under k).length ≤ 1000000000) (hyl : ∀ k, (lat x.frm k).length ≤ 1000000000 ∧ (lat x.into k).length ≤ 1000000000 ∧ (lat x.ranges k).length ≤ 1000000000 ∧ (lat x.firms k).length ≤ 1000000000) : Tri Tryz.prog 107 #[zp_ B.g 0, Fc.val f] Hs [gF B E, pF B pm A, aF B x A, uF B x A, oF B x A, iF B x A, rF B x A, sF B x A, E.ef] (fun _ : {H' : Hp // E.St (emits E.stp (eV_ pm x f ++ gc_ pm x f) nw) fm H'} => .tuple #[]) (fun y => y.1) (fun _ => []) := by
 refine T_ Tryz.func107 rfl rfl Tryz.ntmps107 rfl fun v0 => ?_
 refine h_ (c_ (bs_ rfl rfl fun b1 => ?_))
 refine e_ (b_ rfl (h_ (h_ ?_)))
 refine aS_ (by kernel_rfl) ?_
 refine ah_ 0 [0, 1, 2, 3, 4, 5, 6, 7, 8, 9] (by kernel_rfl) (fun _ a b => ⟨a, b⟩) (n_ rfl (d_ rfl) rfl (n_ rfl (ar_ rfl) rfl (n_ rfl (l_ J_ rfl rfl rfl dy_) rfl (n_ rfl (al_ ed_ rfl (fun v _ h => by exact h.1) rfl) rfl (n_ rfl (l_ o_ rfl rfl rfl j_) rfl (n_ rfl (u_ 0 q_ rfl rfl rfl) rfl (n_ rfl (ap_ eq_ rfl rfl) rfl (n_ rfl (cx_ (k := (Ky.mk 6 (Fc.r f) [])) (adr := A.p) gf_ ci_ cr_ rfl rfl (fun v _ h => by exact h.2.1)) rfl (n_ rfl (am_ A_ rfl) rfl ?_)))))))))
 refine n_ rfl (d_ rfl) rfl (ag_ (ac_ (by kernel_rfl) (b_ rfl (R_ ?_))))
 refine aL_ (ι := {y : Nat × Hp // y.1 ≤ List.length (lat pm (Ky.mk 6 (Fc.r f) [])) ∧ E.St (emits E.stp (List.flatMap (fun y => List.map (fun a => ax_ (Fc.a f) (Pc.t y) a) (lat x.frm (Fc.b f, Pc.s y))) (List.take y.1 (lat pm (Ky.mk 6 (Fc.r f) [])))) nw) fm y.2}) (fun y => [(0, zp_ B.g 0), (3, zp_ b1 0), (19, .slice (Prod.fst (A.p (Ky.mk 6 (Fc.r f) []))) (List.length (lat pm (Ky.mk 6 (Fc.r f) []))) (Prod.snd (A.p (Ky.mk 6 (Fc.r f) [])))), (20, .int .i64 (List.length (lat pm (Ky.mk 6 (Fc.r f) [])) : Int)), (21, .int .i64 (y.1.1 : Int))]) (fun y => ((b1, .cells (Fc.cells f).toArray 41 (0, 0)) :: y.1.2)) (fun y => [gF B E, pF B pm A, aF B x A, uF B x A, oF B x A, iF B x A, rF B x A, sF B x A, E.ef]) (fun y => List.length (lat pm (Ky.mk 6 (Fc.r f) [])) - y.1.1) ⟨((0 : Nat), Hs), by simp, by exact hS⟩ ⟨rfl, rfl, rfl, rfl, rfl, trivial⟩ (m_ i_ aD_) (fun _ _ h => h) ?_
 rintro ⟨⟨i, Hs_i⟩, hi_i, hS_i⟩
 dsimp only at hi_i hS_i ⊢
 have hb_i := hpl (Ky.mk 6 (Fc.r f) [])
 refine h_ (c_ (x_ (av_ rfl rfl) rfl fun r1 hr1 => ?_))
 refine e_ (b_ rfl (h_ ?_))
 cases r1
 ·
  replace hr1 := of_decide_eq_false hr1
  refine v_ rfl (au_ rfl (b_ rfl (h_ ?_)))
  refine aS_ (by kernel_rfl) ?_
  refine ah_ 0 [0, 1, 2, 3, 4, 5, 6, 7, 8, 9] (by kernel_rfl) (fun _ a b => ⟨a, b⟩) (n_ rfl (d_ rfl) rfl (n_ rfl (ar_ rfl) rfl (n_ rfl (l_ J_ rfl rfl rfl dy_) rfl (n_ rfl (al_ ed_ rfl (fun v _ h => by exact h.1) rfl) rfl (n_ rfl (l_ o_ rfl rfl rfl j_) rfl (n_ rfl (u_ 0 q_ rfl rfl rfl) rfl (n_ rfl (ap_ eq_ rfl rfl) rfl (n_ rfl (cx_ (k := (Ky.mk 6 [] (Fc.r f))) (adr := A.p) gf_ ci_ cr_ rfl rfl (fun v _ h => by exact h.2.1)) rfl (n_ rfl (am_ A_ rfl) rfl ?_)))))))))
  refine n_ rfl (d_ rfl) rfl (ag_ (ac_ (by kernel_rfl) (b_ rfl (R_ ?_))))
  refine aL_ (ι := {y : Nat × Hp // y.1 ≤ List.length (lat pm (Ky.mk 6 [] (Fc.r f))) ∧ E.St (emits E.stp (List.flatMap (fun y => List.map (fun a => ax_ a (Pc.t y) (Fc.b f)) (lat x.into (Fc.a f, Pc.r y))) (List.take y.1 (lat pm (Ky.mk 6 [] (Fc.r f))))) (emits E.stp (eV_ pm x f) nw)) fm y.2}) (fun y => [(0, zp_ B.g 0), (3, zp_ b1 0), (19, .slice (Prod.fst (A.p (Ky.mk 6 (Fc.r f) []))) (List.length (lat pm (Ky.mk 6 (Fc.r f) []))) (Prod.snd (A.p (Ky.mk 6 (Fc.r f) [])))), (20, .int .i64 (List.length (lat pm (Ky.mk 6 (Fc.r f) [])) : Int)), (21, .int .i64 (i : Int)), (60, .slice (Prod.fst (A.p (Ky.mk 6 [] (Fc.r f)))) (List.length (lat pm (Ky.mk 6 [] (Fc.r f)))) (Prod.snd (A.p (Ky.mk 6 [] (Fc.r f))))), (61, .int .i64 (List.length (lat pm (Ky.mk 6 [] (Fc.r f))) : Int)), (62, .int .i64 (y.1.1 : Int))]) (fun y => ((b1, .cells (Fc.cells f).toArray 41 (0, 0)) :: y.1.2)) (fun y => [gF B E, pF B pm A, aF B x A, uF B x A, oF B x A, iF B x A, rF B x A, sF B x A, E.ef]) (fun y => List.length (lat pm (Ky.mk 6 [] (Fc.r f))) - y.1.1) ⟨((0 : Nat), Hs_i), by simp, by have e9 : List.take i (lat pm (Ky.mk 6 (Fc.r f) [])) = (lat pm (Ky.mk 6 (Fc.r f) [])) := List.take_of_length_le (by omega); rw [e9] at hS_i; exact hS_i⟩ ⟨rfl, rfl, rfl, rfl, rfl, rfl, rfl, rfl, trivial⟩ (m_ i_ aD_) (fun _ _ h => h) ?_
  rintro ⟨⟨k, Hs_k⟩, hi_k, hS_k⟩
  dsimp only at hi_k hS_k ⊢
  have hb_k := hpl (Ky.mk 6 [] (Fc.r f))
  refine h_ (c_ (x_ (av_ rfl rfl) rfl fun r2 hr2 => ?_))
  refine e_ (b_ rfl (h_ ?_))
  cases r2
  ·
   replace hr2 := of_decide_eq_false hr2
   refine v_ rfl (au_ rfl (bx_ rfl ?_))
   exact dv_ Tryz.results107 ⟨Hs_k, by rw [aV_]; unfold gc_; have e8 : List.take k (lat pm (Ky.mk 6 [] (Fc.r f))) = lat pm (Ky.mk 6 [] (Fc.r f)) := List.take_of_length_le (by omega); rw [e8] at hS_k; exact hS_k⟩ rfl S_ (fun _ _ _ => trivial)
  ·
   replace hr2 := of_decide_eq_true hr2
   have hlx3 : k < List.length (lat pm (Ky.mk 6 [] (Fc.r f))) := by omega
   obtain ⟨x3, hx3⟩ : ∃ e0, (lat pm (Ky.mk 6 [] (Fc.r f)))[k]? = some e0 := ⟨_, List.getElem?_eq_getElem hlx3⟩
   have hmx3 : x3 ∈ (lat pm (Ky.mk 6 [] (Fc.r f))) := List.mem_of_getElem? hx3
   refine t_ rfl (z_ (b_ rfl (h_ (R_ (h_ (c_ (a_ (aa_ A_ K_ rfl rfl (fun v _ h => ay_ (n := 10) Pc.cells_len (by decide) (by exact (bO_ h.2.1 (Ky.mk 6 [] (Fc.r f)))) hx3) (by omega) (by first | omega | (simp; done))) rfl (a_ (aU_ (ad := (Prod.fst (A.p (Ky.mk 6 [] (Fc.r f))))) (us := Pc.cells x3) aG_ K_ rfl (fun v _ h => by exact (bO_ h.2.1 (Ky.mk 6 [] (Fc.r f)))) (Pc.cells_len _) (ad_ Pc.cells_len hx3)) rfl (ao_ aX_ rfl fun b2 => ?_)))))))))
   refine Q_ 0 K_ rfl rfl rfl rfl rfl rfl (e_ (b_ rfl (h_ ?_)))
   refine aS_ (by kernel_rfl) ?_
   refine ah_ 0 [0, 1, 2, 3, 4, 5, 6, 7, 8, 9, 10, 11] (by kernel_rfl) (fun _ a b => ⟨a, b⟩) (n_ rfl (d_ rfl) rfl (n_ rfl (ar_ rfl) rfl (n_ rfl (l_ J_ rfl rfl rfl dx_) rfl (n_ rfl (al_ ec_ rfl (fun v _ h => by exact h.1) rfl) rfl (n_ rfl (l_ o_ rfl rfl rfl j_) rfl (n_ rfl (u_ 1 q_ rfl rfl rfl) rfl (n_ rfl (l_ k_ rfl rfl rfl j_) rfl (n_ rfl (u_ 0 q_ rfl rfl rfl) rfl (n_ rfl (ap_ eT_ rfl rfl) rfl ?_)))))))))
   refine n_ rfl (cx_ (k := ((Fc.a f), (Pc.r x3))) (adr := A.i) cX_ ch_ bI_ rfl rfl (fun v _ h => by exact h.2.2.2.2.2.1)) rfl (n_ rfl (am_ D_ rfl) rfl (n_ rfl (d_ rfl) rfl (ag_ (ac_ (by kernel_rfl) (b_ rfl (R_ ?_))))))
   refine aL_ (ι := {y : Nat × Hp // y.1 ≤ List.length (lat x.into ((Fc.a f), (Pc.r x3))) ∧ E.St (emits E.stp (List.map (fun a => ax_ a (Pc.t x3) (Fc.b f)) (List.take y.1 (lat x.into ((Fc.a f), (Pc.r x3))))) (emits E.stp (List.flatMap (fun y => List.map (fun a => ax_ a (Pc.t y) (Fc.b f)) (lat x.into (Fc.a f, Pc.r y))) (List.take k (lat pm (Ky.mk 6 [] (Fc.r f))))) (emits E.stp (eV_ pm x f) nw))) fm y.2}) (fun y => [(0, zp_ B.g 0), (3, zp_ b1 0), (19, .slice (Prod.fst (A.p (Ky.mk 6 (Fc.r f) []))) (List.length (lat pm (Ky.mk 6 (Fc.r f) []))) (Prod.snd (A.p (Ky.mk 6 (Fc.r f) [])))), (20, .int .i64 (List.length (lat pm (Ky.mk 6 (Fc.r f) [])) : Int)), (21, .int .i64 (i : Int)), (60, .slice (Prod.fst (A.p (Ky.mk 6 [] (Fc.r f)))) (List.length (lat pm (Ky.mk 6 [] (Fc.r f)))) (Prod.snd (A.p (Ky.mk 6 [] (Fc.r f))))), (61, .int .i64 (List.length (lat pm (Ky.mk 6 [] (Fc.r f))) : Int)), (62, .int .i64 (k : Int)), (9, zp_ b2 0), (75, .slice (Prod.fst (A.i ((Fc.a f), (Pc.r x3)))) (List.length (lat x.into ((Fc.a f), (Pc.r x3)))) (Prod.snd (A.i ((Fc.a f), (Pc.r x3))))), (76, .int .i64 (List.length (lat x.into ((Fc.a f), (Pc.r x3))) : Int)), (77, .int .i64 (y.1.1 : Int))]) (fun y => ((b2, .cells (Pc.cells x3).toArray 47 (0, 0)) :: ((b1, .cells (Fc.cells f).toArray 41 (0, 0)) :: y.1.2))) (fun y => [gF B E, pF B pm A, aF B x A, uF B x A, oF B x A, iF B x A, rF B x A, sF B x A, E.ef]) (fun y => List.length (lat x.into ((Fc.a f), (Pc.r x3))) - y.1.1) ⟨((0 : Nat), Hs_k), by simp, by exact hS_k⟩ ⟨rfl, rfl, rfl, rfl, rfl, rfl, rfl, rfl, rfl, rfl, rfl, rfl, trivial⟩ (m_ i_ (m_ i_ aD_)) (fun _ _ h => h) ?_
   rintro ⟨⟨l, Hs_l⟩, hi_l, hS_l⟩
   dsimp only at hi_l hS_l ⊢
   have hb_l := (hyl ((Fc.a f), (Pc.r x3))).2.1
   refine h_ (c_ (x_ (av_ rfl rfl) rfl fun r3 hr3 => ?_))
   refine e_ (b_ rfl (h_ ?_))
   cases r3
   ·
    replace hr3 := of_decide_eq_false hr3
    refine v_ rfl (au_ rfl (b_ rfl (c_ (a_ (M_ rfl rfl rfl (af_ (by omega) (by omega))) rfl (a_ (d_ rfl) rfl (e_ (w_ rfl ?_)))))))
    exact Z_ ⟨(k + 1, Hs_l), hlx3, (by rw [fG_ hx3, aV_]; have e9 : List.take l (lat x.into (Fc.a f, Pc.r x3)) = (lat x.into (Fc.a f, Pc.r x3)) := List.take_of_length_le (by omega); rw [e9] at hS_l; exact hS_l)⟩ (by dsimp only; omega) ⟨rfl, rfl, rfl, rfl, rfl, rfl, rfl, rfl, trivial⟩ (m_ (f_ i_) S_) (fun _ _ h => h)
   ·
    replace hr3 := of_decide_eq_true hr3
    have hlx4 : l < List.length (lat x.into ((Fc.a f), (Pc.r x3))) := by omega
    obtain ⟨x4, hx4⟩ : ∃ e0, (lat x.into ((Fc.a f), (Pc.r x3)))[l]? = some e0 := ⟨_, List.getElem?_eq_getElem hlx4⟩
    have hmx4 : x4 ∈ (lat x.into ((Fc.a f), (Pc.r x3))) := List.mem_of_getElem? hx4
    refine t_ rfl (z_ (b_ rfl (h_ (R_ (h_ (c_ (a_ (aa_ D_ j_ rfl rfl (fun v _ h => ay_ (n := 1) at_ (by decide) (by exact (bO_ h.2.2.2.2.2.1 ((Fc.a f), (Pc.r x3)))) hx4) (by omega) (by first | omega | (simp; done))) rfl (a_ (aN_ (ad := (Prod.fst (A.i ((Fc.a f), (Pc.r x3))))) q_ rfl (fun v _ h => by exact (bO_ h.2.2.2.2.2.1 ((Fc.a f), (Pc.r x3)))) (ad_ at_ hx4 0 _ rfl)) rfl (a_ (g_ rfl) rfl ?_)))))))))
    refine e_ (b_ rfl ?_)
    refine aR_ ((b2, .cells (Pc.cells x3).toArray 47 (0, 0)) :: ((b1, .cells (Fc.cells f).toArray 41 (0, 0)) :: [])) (by kernel_rfl) ?_
    refine ah_ 2 [0, 1, 2, 3, 4, 5, 6, 7, 8] (by kernel_rfl) (fun _ a b => ⟨Vw.sat.sub (a.perm (m_ i_ i_)), b⟩) (n_ rfl (d_ rfl) rfl (n_ rfl (ar_ rfl) rfl (n_ rfl (l_ J_ rfl rfl rfl be_) rfl (n_ rfl (al_ bJ_ rfl (fun v _ h => by exact h.1) rfl) rfl (n_ rfl (d_ rfl) rfl (n_ rfl (l_ k_ rfl rfl rfl j_) rfl (n_ rfl (u_ 0 q_ rfl rfl rfl) rfl (n_ rfl (l_ o_ rfl rfl rfl j_) rfl (n_ rfl (u_ 1 q_ rfl rfl rfl) rfl ?_)))))))))
    refine ag_ (X_ 9 rfl (by kernel_rfl) (W_ (iY_ x4 (Pc.t x3) (Fc.b f)) rfl I_ (fun _ _ _ => by exact trivial) rfl fun _ => ?_))
    refine e_ (w_ rfl (N_ (fun _ a b => ⟨Vw.sat.sub (a.perm (m_ i_ i_)), b⟩) (X_ 10 rfl (by kernel_rfl) (bh_ (first := []) (cap := E.caps) (E.emit (ax_ x4 (Pc.t x3) (Fc.b f)) (emits E.stp (List.map (fun a => ax_ a (Pc.t x3) (Fc.b f)) (List.take l (lat x.into ((Fc.a f), (Pc.r x3))))) (emits E.stp (List.flatMap (fun y => List.map (fun a => ax_ a (Pc.t y) (Fc.b f)) (lat x.into (Fc.a f, Pc.r y))) (List.take k (lat pm (Ky.mk 6 [] (Fc.r f))))) (emits E.stp (eV_ pm x f) nw))) fm Hs_l hS_l) rfl rfl (f_ S_) (fun v _ h => by exact ⟨h.2.2.2.2.2.2.2.2.1, trivial⟩) rfl fun ⟨Hs1, hS1⟩ => ?_))))
    dsimp only
    refine e_ (w_ rfl (N_ (fun _ a b => ⟨Vw.sat.sub (a.perm (m_ (s_ i_) bj_)), b⟩) (ac_ (by kernel_rfl) (b_ rfl (c_ (a_ (M_ rfl rfl rfl (af_ (by omega) (by omega))) rfl (a_ (d_ rfl) rfl (e_ (w_ rfl ?_)))))))))
    exact Z_ ⟨(l + 1, Hs1), hlx4, (by rw [eu_ hx4, aV_]; exact hS1)⟩ (by dsimp only; omega) ⟨rfl, rfl, rfl, rfl, rfl, rfl, rfl, rfl, rfl, rfl, rfl, rfl, trivial⟩ (m_ (s_ i_) (m_ bj_ aD_)) (fun _ _ h => h)
 ·
  replace hr1 := of_decide_eq_true hr1
  have hlx1 : i < List.length (lat pm (Ky.mk 6 (Fc.r f) [])) := by omega
  obtain ⟨x1, hx1⟩ : ∃ e0, (lat pm (Ky.mk 6 (Fc.r f) []))[i]? = some e0 := ⟨_, List.getElem?_eq_getElem hlx1⟩
  have hmx1 : x1 ∈ (lat pm (Ky.mk 6 (Fc.r f) [])) := List.mem_of_getElem? hx1
  refine t_ rfl (z_ (b_ rfl (h_ (R_ (h_ (c_ (a_ (aa_ A_ K_ rfl rfl (fun v _ h => ay_ (n := 10) Pc.cells_len (by decide) (by exact (bO_ h.2.1 (Ky.mk 6 (Fc.r f) []))) hx1) (by omega) (by first | omega | (simp; done))) rfl (a_ (aU_ (ad := (Prod.fst (A.p (Ky.mk 6 (Fc.r f) [])))) (us := Pc.cells x1) aG_ K_ rfl (fun v _ h => by exact (bO_ h.2.1 (Ky.mk 6 (Fc.r f) []))) (Pc.cells_len _) (ad_ Pc.cells_len hx1)) rfl (ao_ aX_ rfl fun b3 => ?_)))))))))
  refine Q_ 0 K_ rfl rfl rfl rfl rfl rfl (e_ (b_ rfl (h_ ?_)))
  refine aS_ (by kernel_rfl) ?_
  refine ah_ 0 [0, 1, 2, 3, 4, 5, 6, 7, 8, 9, 10, 11] (by kernel_rfl) (fun _ a b => ⟨a, b⟩) (n_ rfl (d_ rfl) rfl (n_ rfl (ar_ rfl) rfl (n_ rfl (l_ J_ rfl rfl rfl dx_) rfl (n_ rfl (al_ ec_ rfl (fun v _ h => by exact h.1) rfl) rfl (n_ rfl (l_ o_ rfl rfl rfl j_) rfl (n_ rfl (u_ 1 q_ rfl rfl rfl) rfl (n_ rfl (l_ k_ rfl rfl rfl j_) rfl (n_ rfl (u_ 0 q_ rfl rfl rfl) rfl (n_ rfl (ap_ eT_ rfl rfl) rfl ?_)))))))))
  refine n_ rfl (cx_ (k := ((Fc.b f), (Pc.s x1))) (adr := A.o) cX_ ch_ bI_ rfl rfl (fun v _ h => by exact h.2.2.2.2.1)) rfl (n_ rfl (am_ D_ rfl) rfl (n_ rfl (d_ rfl) rfl (ag_ (ac_ (by kernel_rfl) (b_ rfl (R_ ?_))))))
  refine aL_ (ι := {y : Nat × Hp // y.1 ≤ List.length (lat x.frm ((Fc.b f), (Pc.s x1))) ∧ E.St (emits E.stp (List.map (fun a => ax_ (Fc.a f) (Pc.t x1) a) (List.take y.1 (lat x.frm ((Fc.b f), (Pc.s x1))))) (emits E.stp (List.flatMap (fun y => List.map (fun a => ax_ (Fc.a f) (Pc.t y) a) (lat x.frm (Fc.b f, Pc.s y))) (List.take i (lat pm (Ky.mk 6 (Fc.r f) [])))) nw)) fm y.2}) (fun y => [(0, zp_ B.g 0), (3, zp_ b1 0), (19, .slice (Prod.fst (A.p (Ky.mk 6 (Fc.r f) []))) (List.length (lat pm (Ky.mk 6 (Fc.r f) []))) (Prod.snd (A.p (Ky.mk 6 (Fc.r f) [])))), (20, .int .i64 (List.length (lat pm (Ky.mk 6 (Fc.r f) [])) : Int)), (21, .int .i64 (i : Int)), (5, zp_ b3 0), (34, .slice (Prod.fst (A.o ((Fc.b f), (Pc.s x1)))) (List.length (lat x.frm ((Fc.b f), (Pc.s x1)))) (Prod.snd (A.o ((Fc.b f), (Pc.s x1))))), (35, .int .i64 (List.length (lat x.frm ((Fc.b f), (Pc.s x1))) : Int)), (36, .int .i64 (y.1.1 : Int))]) (fun y => ((b3, .cells (Pc.cells x1).toArray 47 (0, 0)) :: ((b1, .cells (Fc.cells f).toArray 41 (0, 0)) :: y.1.2))) (fun y => [gF B E, pF B pm A, aF B x A, uF B x A, oF B x A, iF B x A, rF B x A, sF B x A, E.ef]) (fun y => List.length (lat x.frm ((Fc.b f), (Pc.s x1))) - y.1.1) ⟨((0 : Nat), Hs_i), by simp, by exact hS_i⟩ ⟨rfl, rfl, rfl, rfl, rfl, rfl, rfl, rfl, rfl, trivial⟩ (m_ i_ (m_ i_ aD_)) (fun _ _ h => h) ?_
  rintro ⟨⟨j, Hs_j⟩, hi_j, hS_j⟩
  dsimp only at hi_j hS_j ⊢
  have hb_j := (hyl ((Fc.b f), (Pc.s x1))).1
  refine h_ (c_ (x_ (av_ rfl rfl) rfl fun r4 hr4 => ?_))
  refine e_ (b_ rfl (h_ ?_))
  cases r4
  ·
   replace hr4 := of_decide_eq_false hr4
   refine v_ rfl (au_ rfl (b_ rfl (c_ (a_ (M_ rfl rfl rfl (af_ (by omega) (by omega))) rfl (a_ (d_ rfl) rfl (e_ (w_ rfl ?_)))))))
   exact Z_ ⟨(i + 1, Hs_j), hlx1, (by rw [fG_ hx1, aV_]; have e9 : List.take j (lat x.frm (Fc.b f, Pc.s x1)) = (lat x.frm (Fc.b f, Pc.s x1)) := List.take_of_length_le (by omega); rw [e9] at hS_j; exact hS_j)⟩ (by dsimp only; omega) ⟨rfl, rfl, rfl, rfl, rfl, trivial⟩ (m_ (f_ i_) S_) (fun _ _ h => h)
  ·
   replace hr4 := of_decide_eq_true hr4
   have hlx2 : j < List.length (lat x.frm ((Fc.b f), (Pc.s x1))) := by omega
   obtain ⟨x2, hx2⟩ : ∃ e0, (lat x.frm ((Fc.b f), (Pc.s x1)))[j]? = some e0 := ⟨_, List.getElem?_eq_getElem hlx2⟩
   have hmx2 : x2 ∈ (lat x.frm ((Fc.b f), (Pc.s x1))) := List.mem_of_getElem? hx2
   refine t_ rfl (z_ (b_ rfl (h_ (R_ (h_ (c_ (a_ (aa_ D_ j_ rfl rfl (fun v _ h => ay_ (n := 1) at_ (by decide) (by exact (bO_ h.2.2.2.2.1 ((Fc.b f), (Pc.s x1)))) hx2) (by omega) (by first | omega | (simp; done))) rfl (a_ (aN_ (ad := (Prod.fst (A.o ((Fc.b f), (Pc.s x1))))) q_ rfl (fun v _ h => by exact (bO_ h.2.2.2.2.1 ((Fc.b f), (Pc.s x1)))) (ad_ at_ hx2 0 _ rfl)) rfl (a_ (g_ rfl) rfl ?_)))))))))
   refine e_ (b_ rfl ?_)
   refine aR_ ((b3, .cells (Pc.cells x1).toArray 47 (0, 0)) :: ((b1, .cells (Fc.cells f).toArray 41 (0, 0)) :: [])) (by kernel_rfl) ?_
   refine ah_ 2 [0, 1, 2, 3, 4, 5, 6, 7, 8] (by kernel_rfl) (fun _ a b => ⟨Vw.sat.sub (a.perm (m_ i_ i_)), b⟩) (n_ rfl (d_ rfl) rfl (n_ rfl (ar_ rfl) rfl (n_ rfl (l_ J_ rfl rfl rfl be_) rfl (n_ rfl (al_ bJ_ rfl (fun v _ h => by exact h.1) rfl) rfl (n_ rfl (l_ o_ rfl rfl rfl j_) rfl (n_ rfl (u_ 1 q_ rfl rfl rfl) rfl (n_ rfl (l_ k_ rfl rfl rfl j_) rfl (n_ rfl (u_ 0 q_ rfl rfl rfl) rfl (n_ rfl (d_ rfl) rfl ?_)))))))))
   refine ag_ (X_ 9 rfl (by kernel_rfl) (W_ (iY_ (Fc.a f) (Pc.t x1) x2) rfl I_ (fun _ _ _ => by exact trivial) rfl fun _ => ?_))
   refine e_ (w_ rfl (N_ (fun _ a b => ⟨Vw.sat.sub (a.perm (m_ i_ i_)), b⟩) (X_ 10 rfl (by kernel_rfl) (bh_ (first := []) (cap := E.caps) (E.emit (ax_ (Fc.a f) (Pc.t x1) x2) (emits E.stp (List.map (fun a => ax_ (Fc.a f) (Pc.t x1) a) (List.take j (lat x.frm ((Fc.b f), (Pc.s x1))))) (emits E.stp (List.flatMap (fun y => List.map (fun a => ax_ (Fc.a f) (Pc.t y) a) (lat x.frm (Fc.b f, Pc.s y))) (List.take i (lat pm (Ky.mk 6 (Fc.r f) [])))) nw)) fm Hs_j hS_j) rfl rfl (f_ S_) (fun v _ h => by exact ⟨h.2.2.2.2.2.2.2.2.1, trivial⟩) rfl fun ⟨Hs2, hS2⟩ => ?_))))
   dsimp only
   refine e_ (w_ rfl (N_ (fun _ a b => ⟨Vw.sat.sub (a.perm (m_ (s_ i_) bj_)), b⟩) (ac_ (by kernel_rfl) (b_ rfl (c_ (a_ (M_ rfl rfl rfl (af_ (by omega) (by omega))) rfl (a_ (d_ rfl) rfl (e_ (w_ rfl ?_)))))))))
   exact Z_ ⟨(j + 1, Hs2), hlx2, (by rw [eu_ hx2, aV_]; exact hS2)⟩ (by dsimp only; omega) ⟨rfl, rfl, rfl, rfl, rfl, rfl, rfl, rfl, rfl, trivial⟩ (m_ (s_ i_) (m_ bj_ aD_)) (fun _ _ h => h)
theorem lU_ (B : EngB) (E : Emt Tryz.prog 41) (A : EngA) (pm : List (Ky × Pc)) (x : Ix) (f : Fc) (nw fm : List Fc) (Hs : Hp) (hS : E.St nw fm Hs) (hpl : ∀ k, (lat pm k).length ≤ 1000000000) (hxl : ∀ k, (lat x.above k).length ≤ 1000000000 ∧ (lat x.under k).length ≤ 1000000000) (hyl : ∀ k, (lat x.frm k).length ≤ 1000000000 ∧ (lat x.into k).length ≤ 1000000000 ∧ (lat x.ranges k).length ≤ 1000000000 ∧ (lat x.firms k).length ≤ 1000000000) : Tri Tryz.prog 104 #[zp_ B.g 0, Fc.val f] Hs [gF B E, pF B pm A, aF B x A, uF B x A, oF B x A, iF B x A, rF B x A, sF B x A, E.ef] (fun _ : {H' : Hp // E.St (emits E.stp (dw_ x f) nw) fm H'} => .tuple #[]) (fun y => y.1) (fun _ => []) := by
 refine T_ Tryz.func104 rfl rfl Tryz.ntmps104 rfl fun v0 => ?_
 refine h_ (c_ (bs_ rfl rfl fun b1 => ?_))
 refine e_ (b_ rfl (h_ (c_ (a_ (l_ o_ rfl rfl rfl j_) rfl (a_ (u_ 0 q_ rfl rfl rfl) rfl (x_ (aq_ rfl rfl) rfl fun r1 hr1 => ?_))))))
 refine e_ (b_ rfl ?_)
 cases r1
 ·
  replace hr1 := ne_of_beq_false hr1
  refine v_ rfl (z_ (bx_ rfl ?_))
  exact dv_ Tryz.results104 ⟨Hs, by unfold dw_; rw [if_neg (by assumption)]; exact hS⟩ rfl S_ (fun _ _ _ => trivial)
 ·
  replace hr1 := eq_of_beq hr1
  refine t_ rfl (h_ ?_)
  refine aS_ (by kernel_rfl) ?_
  refine ah_ 0 [0, 1, 2, 3, 4, 5, 6, 7, 8] (by kernel_rfl) (fun _ a b => ⟨a, b⟩) (n_ rfl (d_ rfl) rfl (n_ rfl (ar_ rfl) rfl (n_ rfl (l_ J_ rfl rfl rfl hf_) rfl (n_ rfl (al_ mv_ rfl (fun v _ h => by exact h.1) rfl) rfl (n_ rfl (l_ o_ rfl rfl rfl j_) rfl (n_ rfl (u_ 0 q_ rfl rfl rfl) rfl (n_ rfl (cx_ (k := (Fc.a f)) (adr := A.u) hu_ cE_ bI_ rfl rfl (fun v _ h => by exact h.2.2.2.1)) rfl (n_ rfl (am_ D_ rfl) rfl (n_ rfl (d_ rfl) rfl ?_)))))))))
  refine ag_ (ac_ (by kernel_rfl) (b_ rfl (R_ ?_)))
  refine aL_ (ι := {y : Nat × Hp // y.1 ≤ List.length (lat x.under (Fc.a f)) ∧ E.St (emits E.stp (List.map (fun a => an_ a [33]) (List.take y.1 (lat x.under (Fc.a f)))) nw) fm y.2}) (fun y => [(0, zp_ B.g 0), (15, .slice (Prod.fst (A.u (Fc.a f))) (List.length (lat x.under (Fc.a f))) (Prod.snd (A.u (Fc.a f)))), (16, .int .i64 (List.length (lat x.under (Fc.a f)) : Int)), (17, .int .i64 (y.1.1 : Int))]) (fun y => (y.1.2)) (fun y => [gF B E, pF B pm A, aF B x A, uF B x A, oF B x A, iF B x A, rF B x A, sF B x A, E.ef]) (fun y => List.length (lat x.under (Fc.a f)) - y.1.1) ⟨((0 : Nat), Hs), by simp, by exact hS⟩ ⟨rfl, rfl, rfl, rfl, trivial⟩ S_ (fun _ _ h => h) ?_
  rintro ⟨⟨i, Hs_i⟩, hi_i, hS_i⟩
  dsimp only at hi_i hS_i ⊢
  have hb_i := (hxl (Fc.a f)).2
  refine h_ (c_ (x_ (av_ rfl rfl) rfl fun r2 hr2 => ?_))
  refine e_ (b_ rfl (h_ ?_))
  cases r2
  ·
   replace hr2 := of_decide_eq_false hr2
   refine v_ rfl (au_ rfl (bx_ rfl ?_))
   exact dv_ Tryz.results104 ⟨Hs_i, by unfold dw_; rw [if_pos (by assumption)]; rw [List.take_of_length_le (by omega)] at hS_i; exact hS_i⟩ rfl aD_ (fun _ _ _ => trivial)
  ·
   replace hr2 := of_decide_eq_true hr2
   have hlx1 : i < List.length (lat x.under (Fc.a f)) := by omega
   obtain ⟨x1, hx1⟩ : ∃ e0, (lat x.under (Fc.a f))[i]? = some e0 := ⟨_, List.getElem?_eq_getElem hlx1⟩
   have hmx1 : x1 ∈ (lat x.under (Fc.a f)) := List.mem_of_getElem? hx1
   refine t_ rfl (z_ (b_ rfl (h_ (R_ (h_ (c_ (a_ (aa_ D_ j_ rfl rfl (fun v _ h => ay_ (n := 1) at_ (by decide) (by exact (bO_ h.2.2.2.1 (Fc.a f))) hx1) (by omega) (by first | omega | (simp; done))) rfl (a_ (aN_ (ad := (Prod.fst (A.u (Fc.a f)))) q_ rfl (fun v _ h => by exact (bO_ h.2.2.2.1 (Fc.a f))) (ad_ at_ hx1 0 _ rfl)) rfl (a_ (g_ rfl) rfl ?_)))))))))
   refine e_ (b_ rfl ?_)
   refine aR_ ([]) (by kernel_rfl) ?_
   refine ah_ 2 [0, 1, 2, 3, 4] (by kernel_rfl) (fun _ a b => ⟨bG_ a, b⟩) (n_ rfl (d_ rfl) rfl (n_ rfl (ar_ rfl) rfl (n_ rfl (l_ J_ rfl rfl rfl be_) rfl (n_ rfl (al_ bJ_ rfl (fun v _ h => by exact h.1) rfl) rfl (n_ rfl (d_ rfl) rfl (ag_ (X_ 5 rfl (by kernel_rfl) (W_ (fg_ x1 [33]) rfl I_ (fun _ _ _ => by exact trivial) rfl fun _ => ?_))))))))
   refine aj_ ht_ (e_ (w_ rfl (N_ (fun _ a b => ⟨bG_ a, b⟩) (X_ 6 rfl (by kernel_rfl) (bh_ (first := []) (cap := E.caps) (E.emit (an_ x1 [33]) (emits E.stp (List.map (fun a => an_ a [33]) (List.take i (lat x.under (Fc.a f)))) nw) fm Hs_i hS_i) rfl rfl aD_ (fun v _ h => by exact ⟨h.2.2.2.2.2.2.2.2.1, trivial⟩) rfl fun ⟨Hs1, hS1⟩ => ?_)))))
   dsimp only
   refine aj_ fk_ (e_ (w_ rfl (N_ (fun _ a b => ⟨bG_ a, b⟩) (ac_ (by kernel_rfl) (b_ rfl (c_ (a_ (M_ rfl rfl rfl (af_ (by omega) (by omega))) rfl (a_ (d_ rfl) rfl (e_ ?_)))))))))
   refine w_ rfl ?_
   exact Z_ ⟨(i + 1, Hs1), hlx1, (by rw [eu_ hx1, aV_]; exact hS1)⟩ (by dsimp only; omega) ⟨rfl, rfl, rfl, rfl, trivial⟩ aD_ (fun _ _ h => h)
theorem lT_ (B : EngB) (E : Emt Tryz.prog 41) (A : EngA) (pm : List (Ky × Pc)) (x : Ix) (f : Fc) (nw fm : List Fc) (Hs : Hp) (hS : E.St nw fm Hs) (hpl : ∀ k, (lat pm k).length ≤ 1000000000) (hxl : ∀ k, (lat x.above k).length ≤ 1000000000 ∧ (lat x.under k).length ≤ 1000000000) (hyl : ∀ k, (lat x.frm k).length ≤ 1000000000 ∧ (lat x.into k).length ≤ 1000000000 ∧ (lat x.ranges k).length ≤ 1000000000 ∧ (lat x.firms k).length ≤ 1000000000) : Tri Tryz.prog 109 #[zp_ B.g 0, Fc.val f] Hs [gF B E, pF B pm A, aF B x A, uF B x A, oF B x A, iF B x A, rF B x A, sF B x A, E.ef] (fun _ : {H' : Hp // E.St (if an_ (Fc.b f) [33] ∈ E.kof nw then E.stp (an_ (Fc.a f) [33]) nw else nw) fm H'} => .tuple #[]) (fun y => y.1) (fun _ => []) := by
  refine T_ Tryz.func109 rfl rfl Tryz.ntmps109 rfl fun v0 => ?_
  refine h_ (c_ (bs_ rfl rfl fun b1 => ?_))
  refine e_ (b_ rfl (h_ ?_))
  refine aS_ (by kernel_rfl) ?_
  refine ah_ 2 [0, 1, 2, 3, 4, 5] (by kernel_rfl) (fun _ a b => ⟨a, b⟩) (n_ rfl (d_ rfl) rfl (n_ rfl (ar_ rfl) rfl (n_ rfl (l_ J_ rfl rfl rfl bW_) rfl (n_ rfl (al_ cz_ rfl (fun v _ h => by exact h.1) rfl) rfl (n_ rfl (l_ o_ rfl rfl rfl j_) rfl (n_ rfl (u_ 0 q_ rfl rfl rfl) rfl (ag_ (X_ 6 rfl (by kernel_rfl) (W_ (fg_ (Fc.b f) [33]) rfl I_ (fun _ _ _ => by exact trivial) rfl fun _ => ?_)))))))))
  refine e_ (w_ rfl (N_ (fun _ a b => ⟨a, b⟩) (ah_ 0 [7] (by kernel_rfl) (fun _ a b => ⟨a, b⟩) ?_)))
  refine cl_ rfl (gB_ (f := (an_ (Fc.b f) [33])) hS gr_ bq_ dK_ rfl rfl S_) rfl fun r1 hr1 => ?_
  refine ag_ (ac_ (by kernel_rfl) (b_ rfl ?_))
  cases r1
  · skip
    replace hr1 := of_decide_eq_false hr1
    refine v_ rfl (z_ (bx_ rfl ?_))
    exact dv_ Tryz.results109 ⟨Hs, by first | (rw [if_pos (by assumption)]; exact hS) | (rw [if_neg (by assumption)]; exact hS)⟩ rfl S_ (fun _ _ _ => trivial)
  · skip
    replace hr1 := of_decide_eq_true hr1
    refine t_ rfl ?_
    refine aR_ ((b1, .cells (Fc.cells f).toArray 41 (0, 0)) :: []) (by kernel_rfl) ?_
    refine ah_ 2 [0, 1, 2, 3, 4, 5] (by kernel_rfl) (fun _ a b => ⟨Vw.sat.sub (a.perm i_), b⟩) (n_ rfl (d_ rfl) rfl (n_ rfl (ar_ rfl) rfl (n_ rfl (l_ J_ rfl rfl rfl be_) rfl (n_ rfl (al_ bJ_ rfl (fun v _ h => by exact h.1) rfl) rfl (n_ rfl (l_ o_ rfl rfl rfl j_) rfl (n_ rfl (u_ 0 q_ rfl rfl rfl) rfl (ag_ (X_ 6 rfl (by kernel_rfl) (W_ (fg_ (Fc.a f) [33]) rfl I_ (fun _ _ _ => by exact trivial) rfl fun _ => ?_)))))))))
    refine e_ (w_ rfl (N_ (fun _ a b => ⟨Vw.sat.sub (a.perm i_), b⟩) (X_ 7 rfl (by kernel_rfl) (bh_ (first := []) (cap := E.caps) (E.emit (an_ (Fc.a f) [33]) nw fm Hs hS) rfl rfl S_ (fun v _ h => by exact ⟨h.2.2.2.2.2.2.2.2.1, trivial⟩) rfl fun ⟨Hs1, hS1⟩ => ?_))))
    dsimp only
    refine e_ (w_ rfl (N_ (fun _ a b => ⟨Vw.sat.sub (a.perm bj_), b⟩) (ac_ (by kernel_rfl) (bx_ rfl ?_))))
    exact dv_ Tryz.results109 ⟨Hs1, by first | (rw [if_pos (by assumption)]; exact hS1) | (rw [if_neg (by assumption)]; exact hS1)⟩ rfl E_ (fun _ _ _ => trivial)
end Go.Proofs.YtpdbbglpbngeiaaGreatDoor
