/-
  Part of the proof of the law SaturateNextSpec over this seat: the small logic, the data, the contracts of functions (no condition).
-/
import Derived.Test.YtpdbbglpbngeiaaGreatDoorQSaturateNextSpec3
import Derived.Test.YtpdbbglpbngeiaaGreatDoorQSaturateNextSpec1
import Derived.Scope
import Derived.Maps.RangeRun
import Derived.Test.YtpdbbglpbngeiaaGreatDoorQSaturateNextSpec2
set_option linter.unusedVariables false
set_option linter.unusedSimpArgs false
set_option linter.unusedSectionVars false
namespace Go.Vs
open Go Go.Sx
def dE_ (c : List Fc) (y : Fc) (s : List Fc) : List Fc := if y ∈ c ∨ y ∈ s then s else s ++ [y]
abbrev eJ_ (c : List Fc) : List Fc → List Fc := fun _ => c
theorem iq_ (c : List Fc) : Grows (dE_ c) (eJ_ c) := ⟨fun _ _ _ h => h⟩
theorem hf_ (c : List Fc) : ∀ (L s : List Fc) (z : Fc), z ∈ emits (dE_ c) L s ↔ z ∈ s ∨ (z ∈ L ∧ z ∉ c)
  | [], s, z => by simp [emits]
  | y :: L, s, z => by
    have e : emits (dE_ c) (y :: L) s = emits (dE_ c) L (dE_ c y s) := rfl
    rw [e, hf_ c L]
    unfold dE_
    split
    · rename_i h
      constructor
      · rintro (h1 | ⟨h1, h2⟩)
        · exact .inl h1
        · exact .inr ⟨by simp [h1], h2⟩
      · rintro (h1 | ⟨h1, h2⟩)
        · exact .inl h1
        · rcases List.mem_cons.1 h1 with rfl | h1
          · exact .inl (h.resolve_left h2)
          · exact .inr ⟨h1, h2⟩
    · rename_i h
      simp only [not_or] at h
      constructor
      · rintro (h1 | ⟨h1, h2⟩)
        · rcases List.mem_append.1 h1 with h1 | h1
          · exact .inl h1
          · simp at h1; subst h1; exact .inr ⟨by simp, h.1⟩
        · exact .inr ⟨by simp [h1], h2⟩
      · rintro (h1 | ⟨h1, h2⟩)
        · exact .inl (by simp [h1])
        · rcases List.mem_cons.1 h1 with rfl | h1
          · exact .inl (by simp)
          · exact .inr ⟨h1, h2⟩
theorem it_ (c : List Fc) : ∀ (L s : List Fc), s.Nodup → (emits (dE_ c) L s).Nodup
  | [], s, h => h
  | y :: L, s, h => by
    refine it_ c L (dE_ c y s) ?_
    unfold dE_
    split
    · exact h
    · rename_i hc
      simp only [not_or] at hc
      rw [List.nodup_append]
      exact ⟨h, by simp, fun a ha b hb e => by simp at hb; subst hb; subst e; exact hc.2 ha⟩
section
variable {ps : List Pc} {A : List Str} {c : List Fc} {x : Ix} {f : Fc}
theorem ob_ (hr : ∀ x ∈ ps, x.vok) {Fm : Fc → Prop} (hx : x.of (· ∈ c) Fm) (hS : ∀ y ∈ c, y.form) (hf : f ∈ c) (j : Nat) (s : List Fc × List Fc) :
    ∀ y ∈ (rl (dE_ c) (eJ_ c) (aS_ ps) x f j s).1, y ∈ s.1 ∨ (ed_ ps A (· ∈ c) y ∧ y ∉ c) := by
  have E : ∀ L, (∀ y ∈ L, ed_ ps A (· ∈ c) y) → ∀ y ∈ emits (dE_ c) L s.1, y ∈ s.1 ∨ (ed_ ps A (· ∈ c) y ∧ y ∉ c) := fun L hL y hy => by
    rcases (hf_ c L s.1 y).1 hy with h | h
    · exact .inl h
    · exact .inr ⟨hL y h.1, h.2⟩
  have hff := hS f hf
  have hk := fd_ hff
  unfold rl
  split
  · rename_i h1
    split
    · exact E _ (hm_ h1 hff hf)
    · obtain ⟨L, e1, e2, _⟩ := em_ (iq_ c) f (lat (aS_ ps) ⟨2, [], f.b⟩) s.1
      rw [e1]
      refine E L fun y hy => ?_
      obtain ⟨z, hz, rfl, g1, g2⟩ := e2 y hy
      obtain ⟨q1, q2, _⟩ := pm2.1 hz
      exact .r4 q1 q2 g1 g2
    · exact E _ (jd_ h1 hff hf)
    · exact E _ (gL_ hr hx hS (fun _ h => h) h1 hff hf)
    · exact E _ (gq_ hx hS (fun _ h => h) h1 hff hf)
    · rw [ei_]; exact E _ (ix_ h1 hff hf)
  · split
    · rename_i h2
      split
      · exact E _ (hl_ h2 hff hf)
      · exact E _ (iG_ hx hS (fun _ h => h) h2 hff hf)
      · exact E _ (gJ_ hx hS (fun _ h => h) h2 hff hf)
      · simp only
        split
        · rename_i hc
          exact E [ak_ f.a [33]] (fun y hy => by simp at hy; subst hy; exact gp_ h2 hff hf hc)
        · exact fun y hy => .inl hy
    · rename_i h1 h2
      have h3 : f.kind = 3 := by omega
      split
      · exact E _ (jr_ hx hS (fun _ h => h) h3 hff hf)
      · exact E _ (kj_ h3 hff hf)
theorem mD_ (hr : ∀ x ∈ ps, x.vok) {Fm : Fc → Prop} (hx : x.of (· ∈ c) Fm) (hS : ∀ y ∈ c, y.form) (hf : f ∈ c) (s : List Fc × List Fc) (j : Nat) :
    ∀ y ∈ (rls (dE_ c) (eJ_ c) (aS_ ps) x f j s).1, y ∈ s.1 ∨ (ed_ ps A (· ∈ c) y ∧ y ∉ c) := by
  induction j with
  | zero => exact fun y hy => .inl hy
  | succ j ih => exact fun y hy => (ob_ (A := A) hr hx hS hf j _ y hy).elim (ih y) .inr
theorem no_ (j k : Nat) (s : List Fc × List Fc) : ∀ y ∈ (rls (dE_ c) (eJ_ c) (aS_ ps) x f j s).1, y ∈ (rls (dE_ c) (eJ_ c) (aS_ ps) x f (j + k) s).1 := by
  induction k with
  | zero => exact fun y hy => hy
  | succ k ih =>
    intro y hy
    obtain ⟨L, h⟩ := jg_ (ps := ps) (x := x) (f := f) (iq_ c) (j + k) (rls (dE_ c) (eJ_ c) (aS_ ps) x f (j + k) s)
    rw [← Nat.add_assoc, rls, h, hf_]
    exact .inl (ih y hy)
theorem lA_ (stp : Fc → List Fc → List Fc) (kof : List Fc → List Fc) (hg : Grows stp kof) (j : Nat) (s : List Fc × List Fc) : ∀ y ∈ s.2, y ∈ (rls stp kof (aS_ ps) x f j s).2 := by
  induction j with
  | zero => exact fun y hy => hy
  | succ j ih =>
    intro y hy
    have := ih y hy
    rw [rls, rl.eq_def]
    split
    · split
      · exact this
      · exact this
      · exact this
      · exact this
      · exact this
      · exact (fh_ hg f _ _ _ _).2 (.inl this)
    · split
      · split <;> exact this
      · split <;> exact this
structure InvN (ps : List Pc) (A : List Str) (c : List Fc) (k : Nat) (s : List Fc × List Fc) : Prop where
  nd : s.1.Nodup
  snd : ∀ y ∈ s.1, ed_ ps A (· ∈ c) y ∧ y ∉ c
  fm : ∀ y ∈ c, y ∈ s.2
  st : ∀ y ∈ dV_ (an_ ps) A, y ∈ s.1 ∨ y ∈ c
  cm : ∀ f ∈ c.take k, Cmpl ps (· ∈ c) (fun _ => True) (· ∈ c) (fun y => y ∈ s.1 ∨ y ∈ c) f
theorem Cmpl.up {S Fm kn good good' : Fc → Prop} (h : Cmpl ps S Fm kn good f) (hg : ∀ y, good y → good' y) : Cmpl ps S Fm kn good' f :=
  ⟨fun z a h1 h2 h3 => hg _ (h.c3 z a h1 h2 h3), fun z a h1 h2 h3 h4 => hg _ (h.c4 z a h1 h2 h3 h4), fun z a h1 h2 h3 h4 => hg _ (h.c4' z a h1 h2 h3 h4), fun z a h1 h2 h3 => hg _ (h.c5 z a h1 h2 h3), fun z a b h1 h2 h3 => hg _ (h.c6 z a b h1 h2 h3),
   fun z a b c h1 h2 h3 h4 => hg _ (h.c7 z a b c h1 h2 h3 h4), fun z a b c h1 h2 h3 h4 => hg _ (h.c7' z a b c h1 h2 h3 h4), fun z a b h1 h2 h3 h4 => hg _ (h.c8 z a b h1 h2 h3 h4), fun z a b h1 h2 h3 h4 => hg _ (h.c8' z a b h1 h2 h3 h4), fun a r b h1 h2 => hg _ (h.c9 a r b h1 h2), fun a r b h1 h2 => hg _ (h.c9' a r b h1 h2),
   fun z a h1 h2 h3 => hg _ (h.c11 z a h1 h2 h3), fun y h1 h2 h3 h4 h5 h6 h7 => hg _ (h.c12 y h1 h2 h3 h4 h5 h6 h7), fun y h1 h2 h3 h4 h5 h6 h7 => hg _ (h.c13 y h1 h2 h3 h4 h5 h6 h7), fun z a lo hi h1 h2 h3 h4 h5 => hg _ (h.c14 z a lo hi h1 h2 h3 h4 h5)⟩
theorem mS_ {fm : List Fc} (hfm : ∀ y ∈ c, y ∈ fm) : InvN ps A c 0 (emits (dE_ c) (dV_ (an_ ps) A) [], fm) := by
  refine ⟨it_ c _ _ List.nodup_nil, fun y hy => ?_, hfm, fun y hy => ?_, by simp⟩
  · rcases (hf_ c _ _ y).1 hy with h | h
    · simp at h
    · exact ⟨gP_ y h.1, h.2⟩
  · by_cases h : y ∈ c
    · exact .inr h
    · exact .inl ((hf_ c _ _ y).2 (.inr ⟨hy, h⟩))
theorem io_ (hr : ∀ x ∈ ps, x.vok) (hx : x.of (· ∈ c) (fun _ => True)) (hS : ∀ y ∈ c, y.form) {k : Nat} {s s' : List Fc × List Fc} (h : InvN ps A c k s) (hf : c[k]? = some f) (hs : rls (dE_ c) (eJ_ c) (aS_ ps) x f (nrl f) s = s') : InvN ps A c (k + 1) s' := by
  have hfc : f ∈ c := List.mem_of_getElem? hf
  have hup : ∀ y ∈ s.1, y ∈ s'.1 := fun y hy => by rw [← hs]; have := no_ (ps := ps) (x := x) (f := f) (c := c) 0 (nrl f) s y hy; rwa [Nat.zero_add] at this
  have hcm : Cmpl ps (· ∈ c) (fun _ => True) (· ∈ c) (fun y => y ∈ s'.1 ∨ y ∈ c) f := by
    refine lC_ (iq_ c) hr hx s (fun y hy => ⟨fun _ => h.fm y hy, fun _ => trivial⟩) hfc (fun y hy => hy) _ (fun y hy => .inr hy) fun j hj L hL y hy => ?_
    by_cases hyc : y ∈ c
    · exact .inr hyc
    · refine .inl ?_
      have := no_ (ps := ps) (x := x) (f := f) (c := c) (j + 1) (nrl f - (j + 1)) s y (by rw [hL, hf_]; exact .inr ⟨hy, hyc⟩)
      rw [show j + 1 + (nrl f - (j + 1)) = nrl f by omega, hs] at this
      exact this
  refine ⟨?_, fun y hy => ?_, fun y hy => by rw [← hs]; exact lA_ _ _ (iq_ c) _ s y (h.fm y hy), fun y hy => (h.st y hy).imp (hup y) id, fun g hg => ?_⟩
  · obtain ⟨L, hL⟩ := gZ_ (ps := ps) (x := x) (f := f) (iq_ c) (nrl f) s
    rw [← hs, hL]; exact it_ c L _ h.nd
  · rw [← hs] at hy
    exact (mD_ (A := A) hr hx hS hfc s _ y hy).elim (h.snd y) id
  · rcases (ls_ hf).1 hg with hg | rfl
    · exact (h.cm g hg).up fun y hy => hy.imp (hup y) id
    · exact hcm
theorem ml_ {good : Fc → Prop} (hb : ∀ y ∈ dV_ (an_ ps) A, good y) (hc : ∀ f ∈ c, Cmpl ps (· ∈ c) (fun _ => True) (· ∈ c) good f) {y : Fc} (h : ed_ ps A (· ∈ c) y) : good y := by
  cases h with
  | r1 h => exact hb _ (fT_ h).1
  | r2 h => exact hb _ (fT_ h).2.1
  | r10 hx hk h => exact hb _ ((fT_ h).2.2 _ hx hk)
  | r3 hx hk h => exact (hc _ h).c3 _ _ hx hk rfl
  | r4 hx hk h h' => exact (hc _ h).c4 _ _ hx hk rfl h'
  | r5 hx hk h => exact (hc _ h).c5 _ _ hx hk rfl
  | r6 hx hk h => exact (hc _ h).c6 _ _ _ hx hk rfl
  | r7 hx hk h h' => exact (hc _ h).c7 _ _ _ _ hx hk rfl h'
  | r8 hx hk h h' => exact (hc _ h).c8 _ _ _ hx hk rfl h'
  | r9 h h' => exact (hc _ h).c9 _ _ _ rfl h'
  | r11 hx hk h => exact (hc _ h).c11 _ _ hx hk rfl
  | r12 h h' hm hl => exact (hc _ h).c12 _ rfl h' rfl rfl rfl (.inl trivial) hl
  | r13 h h' hm hl => exact (hc _ h).c13 _ rfl h' rfl rfl rfl (.inl trivial) hl
  | r14 hx hk h h1 h2 => exact (hc _ h).c14 _ _ _ _ hx hk rfl h1 h2
theorem ks_ {s : List Fc × List Fc} (h : InvN ps A c c.length s) (y : Fc) : y ∈ s.1 ↔ ed_ ps A (· ∈ c) y ∧ y ∉ c := by
  refine ⟨h.snd y, fun ⟨h1, h2⟩ => ?_⟩
  exact (ml_ h.st (fun f hf => h.cm f (by rw [List.take_length]; exact hf)) h1).resolve_right h2
end
def aZ_ (l : List Fc) (f : Fc) : Nat := l.countP fun y => decide (y.lt f)
def eS_ (l : List Fc) (f : Fc) : List Fc := if f ∈ l then l else l.take (aZ_ l f) ++ f :: l.drop (aZ_ l f)
theorem cK_ (l : List Fc) (f : Fc) : aZ_ l f ≤ l.length := List.countP_le_length
theorem gB_ : ∀ {l : List Fc} (f : Fc), Srt l → (∀ y ∈ l.take (aZ_ l f), y.lt f) ∧ (∀ y ∈ l.drop (aZ_ l f), ¬ y.lt f)
  | [], f, _ => by simp [aZ_]
  | x :: l, f, h => by
    rw [Srt, List.pairwise_cons] at h
    obtain ⟨i1, i2⟩ := gB_ f h.2
    by_cases hx : x.lt f
    · have e : aZ_ (x :: l) f = aZ_ l f + 1 := by simp [aZ_, hx]
      rw [e]
      simp only [List.take_succ_cons, List.drop_succ_cons]
      exact ⟨fun y hy => (List.mem_cons.1 hy).elim (fun q => q ▸ hx) (i1 y), i2⟩
    · have hall : ∀ y ∈ l, ¬ y.lt f := fun y hy q => hx (Fc.lt_trans (h.1 y hy) q)
      have e : aZ_ (x :: l) f = 0 := by
        simp only [aZ_, List.countP_cons, hx, decide_false, Bool.false_eq_true, if_false, Nat.add_zero]
        rw [List.countP_eq_zero]
        intro y hy; simpa using hall y hy
      rw [e]
      simp only [List.take_zero, List.not_mem_nil, false_imp_iff, implies_true, true_and, List.drop_zero]
      intro y hy
      rcases List.mem_cons.1 hy with rfl | hy
      · exact hx
      · exact hall y hy
theorem mg_ (l : List Fc) (f y : Fc) : y ∈ eS_ l f ↔ y ∈ l ∨ y = f := by
  unfold eS_
  split
  · rename_i h
    exact ⟨.inl, fun q => q.elim id fun e => e ▸ h⟩
  · have : y ∈ l ↔ y ∈ l.take (aZ_ l f) ∨ y ∈ l.drop (aZ_ l f) := by rw [← List.mem_append, List.take_append_drop]
    rw [this]
    simp only [List.mem_append, List.mem_cons]
    constructor
    · rintro (h | h | h)
      · exact .inl (.inl h)
      · exact .inr h
      · exact .inl (.inr h)
    · rintro ((h | h) | h)
      · exact .inl h
      · exact .inr (.inr h)
      · exact .inr (.inl h)
theorem mf_ {l : List Fc} (f : Fc) (h : Srt l) : Srt (eS_ l f) := by
  unfold eS_
  split
  · exact h
  · rename_i hn
    obtain ⟨h1, h2⟩ := gB_ f h
    have hd : ∀ y ∈ l.drop (aZ_ l f), f.lt y := fun y hy => by
      rcases Fc.lt_tri f y with q | q | q
      · exact q
      · exact absurd (List.mem_of_mem_drop hy) (q ▸ hn)
      · exact absurd q (h2 y hy)
    rw [Srt, List.pairwise_append]
    refine ⟨h.sublist (List.take_sublist _ _), List.pairwise_cons.2 ⟨hd, h.sublist (List.drop_sublist _ _)⟩, fun a ha b hb => ?_⟩
    rcases List.mem_cons.1 hb with rfl | hb
    · exact h1 a ha
    · exact Fc.lt_trans (h1 a ha) (hd b hb)
theorem fQ_ {l : List Fc} (h : Srt l) (f : Fc) : f ∈ l ↔ l[aZ_ l f]? = some f := by
  obtain ⟨h1, h2⟩ := gB_ f h
  refine ⟨fun hf => ?_, fun hf => List.mem_of_getElem? hf⟩
  rw [← List.take_append_drop (aZ_ l f) l, List.mem_append] at hf
  rcases hf with hf | hf
  · exact absurd (h1 f hf) (Fc.lt_irr f)
  · have hs : Srt (l.drop (aZ_ l f)) := h.sublist (List.drop_sublist _ _)
    cases hd : l.drop (aZ_ l f) with
    | nil => rw [hd] at hf; simp at hf
    | cons z r =>
      have hz : l[aZ_ l f]? = some z := by
        have := congrArg (fun q => q[0]?) hd
        simpa [List.getElem?_drop] using this
      rw [hd] at hf hs h2
      rcases List.mem_cons.1 hf with rfl | hf
      · exact hz
      · rw [Srt, List.pairwise_cons] at hs
        exact absurd (hs.1 f hf) (h2 z (by simp))
def subA (p : List Pc) (l : List Fc) (f : Fc) : List Fc := p.flatMap fun x =>
  if x.kind = 1 ∧ x.a = f.b then [ak_ f.a x.c]
  else if x.kind = 2 ∧ (x.a = f.b ∧ ak_ f.a x.b ∈ l ∨ x.b = f.b ∧ ak_ f.a x.a ∈ l) then [ak_ f.a x.c]
  else if x.kind = 3 ∧ x.a = f.b then [au_ f.a x.r x.c]
  else if x.kind = 8 ∧ x.a = f.b then [aF_ f.a x.r x.lo x.hi]
  else []
def rj_ (p : List Pc) (f y : Fc) : List Fc := p.flatMap fun x => if x.kind = 4 ∧ x.r = y.r ∧ x.a = f.b then [ak_ y.a x.c] else []
def subB (p : List Pc) (f y : Fc) : List Fc := if y.kind ≠ 2 ∨ y.b ≠ f.a then [] else (if f.b = [33] then [ak_ y.a [33]] else []) ++ rj_ p f y
def kD_ (p : List Pc) (l : List Fc) (f : Fc) : List Fc := subA p l f ++ l.flatMap (subB p f)
def bT_ (x : Pc) (f y : Fc) : List Fc := if y.kind ≠ 2 then [] else (if x.r = f.r ∧ y.a = f.b ∧ y.r = x.s then [au_ f.a x.t y.b] else []) ++ (if x.s = f.r ∧ y.b = f.a ∧ y.r = x.r then [au_ y.a x.t f.b] else [])
def bD_ (l : List Fc) (f : Fc) (x : Pc) : List Fc :=
  if x.kind = 5 ∧ x.r = f.r then [au_ f.a x.t f.b]
  else if x.kind = 4 ∧ x.r = f.r ∧ ak_ f.b x.a ∈ l then [ak_ f.a x.c]
  else if x.kind = 6 then l.flatMap (bT_ x f) else []
def fJ_ (p : List Pc) (l : List Fc) (f : Fc) : List Fc := (if ak_ f.b [33] ∈ l then [ak_ f.a [33]] else []) ++ p.flatMap (bD_ l f)
def cn_ (f y : Fc) : List Fc := if y.kind ≠ 3 ∨ y.a ≠ f.a ∨ y.r ≠ f.r then [] else if max f.lo y.lo ≤ min f.hi y.hi then [dF_ f y] else [ak_ f.a [33]]
def cS_ (f : Fc) (x : Pc) : List Fc := if x.kind = 9 ∧ x.r = f.r ∧ x.lo ≤ f.lo ∧ f.hi ≤ x.hi then [ak_ f.a x.c] else []
def gc_ (p : List Pc) (l : List Fc) (f : Fc) : List Fc := l.flatMap (cn_ f) ++ p.flatMap (cS_ f)
def cc_ (p : List Pc) (l : List Fc) (f : Fc) : List Fc := if f.kind = 1 then kD_ p l f else if f.kind = 2 then fJ_ p l f else gc_ p l f
def cN_ (p : List Pc) (A : List Str) : List Fc := A.flatMap fun a => ak_ a a :: ak_ a [42] :: (p.filter fun x => decide (x.kind = 7)).map fun x => au_ a x.r a
theorem kx_ (p : List Pc) (A : List Str) : cN_ p A = dV_ (an_ p) A := by
  unfold cN_ dV_ an_
  simp [List.map_map, Function.comp_def]
section
variable {p : List Pc} {A : List Str} {l : List Fc} {f : Fc}
theorem lu_ (hf : f ∈ l) (hF : ∀ y ∈ l, y.form) : ∀ y ∈ cc_ p l f, ed_ p A (· ∈ l) y := by
  have hff := hF f hf
  have hk := fd_ hff
  intro y hy
  unfold cc_ at hy
  split at hy
  · rename_i h1
    have ef := jA_ hff h1
    rcases List.mem_append.1 hy with hy | hy
    · obtain ⟨x, hx, hy⟩ := List.mem_flatMap.1 hy
      split at hy
      · rename_i hc
        simp at hy; subst hy
        exact .r3 hx hc.1 (by rw [hc.2, ← ef]; exact hf)
      · split at hy
        · rename_i hc
          simp at hy; subst hy
          rcases hc.2 with h | h
          · exact .r4 hx hc.1 (by rw [h.1, ← ef]; exact hf) h.2
          · exact .r4 hx hc.1 h.2 (by rw [h.1, ← ef]; exact hf)
        · split at hy
          · rename_i hc
            simp at hy; subst hy
            exact .r5 hx hc.1 (by rw [hc.2, ← ef]; exact hf)
          · split at hy
            · rename_i hc
              simp at hy; subst hy
              exact .r11 hx hc.1 (by rw [hc.2, ← ef]; exact hf)
            · simp at hy
    · obtain ⟨g, hg, hy⟩ := List.mem_flatMap.1 hy
      unfold subB at hy
      split at hy
      · simp at hy
      · rename_i hc
        simp only [not_or, Decidable.not_not] at hc
        have eg := (hS_ (hF g hg) hc.1).1
        rcases List.mem_append.1 hy with hy | hy
        · split at hy
          · rename_i hb
            simp at hy; subst hy
            exact .r9 (r := g.r) (b := g.b) (by rw [← eg]; exact hg) (by rw [hc.2, ← hb, ← ef]; exact hf)
          · simp at hy
        · obtain ⟨x, hx, hy⟩ := List.mem_flatMap.1 hy
          split at hy
          · rename_i hd
            simp at hy; subst hy
            exact .r8 (b := g.b) hx hd.1 (by rw [hd.2.1, ← eg]; exact hg) (by rw [hc.2, hd.2.2, ← ef]; exact hf)
          · simp at hy
  · split at hy
    · rename_i h2
      have ef := (hS_ hff h2).1
      rcases List.mem_append.1 hy with hy | hy
      · split at hy
        · rename_i hb
          simp at hy; subst hy
          exact .r9 (r := f.r) (b := f.b) (by rw [← ef]; exact hf) hb
        · simp at hy
      · obtain ⟨x, hx, hy⟩ := List.mem_flatMap.1 hy
        unfold bD_ at hy
        split at hy
        · rename_i hc
          simp at hy; subst hy
          exact .r6 hx hc.1 (by rw [hc.2, ← ef]; exact hf)
        · split at hy
          · rename_i hc
            simp at hy; subst hy
            exact .r8 (b := f.b) hx hc.1 (by rw [hc.2.1, ← ef]; exact hf) hc.2.2
          · split at hy
            · rename_i hc
              obtain ⟨g, hg, hy⟩ := List.mem_flatMap.1 hy
              unfold bT_ at hy
              split at hy
              · simp at hy
              · rename_i hgk
                have eg := (hS_ (hF g hg) (Decidable.not_not.1 hgk)).1
                rcases List.mem_append.1 hy with hy | hy
                · split at hy
                  · rename_i hd
                    simp at hy; subst hy
                    exact .r7 (b := f.b) hx hc (by rw [hd.1, ← ef]; exact hf) (by rw [← hd.2.2, ← hd.2.1, ← eg]; exact hg)
                  · simp at hy
                · split at hy
                  · rename_i hd
                    simp at hy; subst hy
                    exact .r7 (b := f.a) hx hc (by rw [← hd.2.2, ← hd.2.1, ← eg]; exact hg) (by rw [hd.1, ← ef]; exact hf)
                  · simp at hy
            · simp at hy
    · rename_i h1 h2
      have h3 : f.kind = 3 := by omega
      have ef := (fn_ hff h3).1
      rcases List.mem_append.1 hy with hy | hy
      · obtain ⟨g, hg, hy⟩ := List.mem_flatMap.1 hy
        unfold cn_ at hy
        split at hy
        · simp at hy
        · rename_i hc
          simp only [not_or, Decidable.not_not] at hc
          have eg := (fn_ (hF g hg) hc.1).1
          rw [hc.2.1, hc.2.2] at eg
          split at hy
          · rename_i hl
            simp at hy; subst hy
            exact .r12 (by rw [← ef]; exact hf) (by rw [← eg]; exact hg) trivial hl
          · rename_i hl
            simp at hy; subst hy
            exact .r13 (r := f.r) (by rw [← ef]; exact hf) (by rw [← eg]; exact hg) trivial (Int.not_le.1 hl)
      · obtain ⟨x, hx, hy⟩ := List.mem_flatMap.1 hy
        unfold cS_ at hy
        split at hy
        · rename_i hc
          simp at hy; subst hy
          exact .r14 hx hc.1 (by rw [hc.2.1, ← ef]; exact hf) hc.2.2.1 hc.2.2.2
        · simp at hy
theorem mz_ : Cmpl p (· ∈ l) (fun _ => True) (· ∈ l) (· ∈ cc_ p l f) f := by
  have s1 : ∀ {a b y}, f = ak_ a b → (y ∈ kD_ p l f) → y ∈ cc_ p l f := fun e h => by unfold cc_; rw [if_pos (by rw [e]; rfl)]; exact h
  have s2 : ∀ {a r b y}, f = au_ a r b → (y ∈ fJ_ p l f) → y ∈ cc_ p l f := fun e h => by unfold cc_; rw [if_neg (by rw [e]; simp [au_]), if_pos (by rw [e]; rfl)]; exact h
  have s3 : ∀ {y}, f.kind = 3 → (y ∈ gc_ p l f) → y ∈ cc_ p l f := fun e h => by unfold cc_; rw [if_neg (by rw [e]; decide), if_neg (by rw [e]; decide)]; exact h
  refine ⟨?_, ?_, ?_, ?_, ?_, ?_, ?_, ?_, ?_, ?_, ?_, ?_, ?_, ?_, ?_⟩
  · intro z a hz hk e
    refine s1 e (List.mem_append_left _ (List.mem_flatMap.2 ⟨z, hz, ?_⟩))
    rw [e, if_pos ⟨hk, rfl⟩]; simp [ak_]
  · intro z a hz hk e h
    refine s1 e (List.mem_append_left _ (List.mem_flatMap.2 ⟨z, hz, ?_⟩))
    rw [e, if_neg (by rw [hk]; simp), if_pos ⟨hk, .inl ⟨rfl, h⟩⟩]; simp [ak_]
  · intro z a hz hk e h
    refine s1 e (List.mem_append_left _ (List.mem_flatMap.2 ⟨z, hz, ?_⟩))
    rw [e, if_neg (by rw [hk]; simp), if_pos ⟨hk, .inr ⟨rfl, h⟩⟩]; simp [ak_]
  · intro z a hz hk e
    refine s1 e (List.mem_append_left _ (List.mem_flatMap.2 ⟨z, hz, ?_⟩))
    rw [e, if_neg (by rw [hk]; simp), if_neg (by rw [hk]; simp), if_pos ⟨hk, rfl⟩]; simp [ak_]
  · intro z a b hz hk e
    refine s2 e (List.mem_append_right _ (List.mem_flatMap.2 ⟨z, hz, ?_⟩))
    rw [e, bD_, if_pos ⟨hk, rfl⟩]; simp [au_]
  · intro z a b c hz hk e h
    refine s2 e (List.mem_append_right _ (List.mem_flatMap.2 ⟨z, hz, ?_⟩))
    rw [e, bD_, if_neg (by rw [hk]; simp), if_neg (by rw [hk]; simp), if_pos hk]
    refine List.mem_flatMap.2 ⟨_, h, ?_⟩
    rw [bT_, if_neg (by simp [au_])]
    refine List.mem_append_left _ ?_
    rw [if_pos ⟨rfl, rfl, rfl⟩]; simp [au_]
  · intro z a b c hz hk e h
    refine s2 e (List.mem_append_right _ (List.mem_flatMap.2 ⟨z, hz, ?_⟩))
    rw [e, bD_, if_neg (by rw [hk]; simp), if_neg (by rw [hk]; simp), if_pos hk]
    refine List.mem_flatMap.2 ⟨_, h, ?_⟩
    rw [bT_, if_neg (by simp [au_])]
    refine List.mem_append_right _ ?_
    rw [if_pos ⟨rfl, rfl, rfl⟩]; simp [au_]
  · intro z a b hz hk e h
    refine s2 e (List.mem_append_right _ (List.mem_flatMap.2 ⟨z, hz, ?_⟩))
    rw [e, bD_, if_neg (by rw [hk]; simp), if_pos ⟨hk, rfl, h⟩]; simp [au_]
  · intro z a b hz hk e h
    refine s1 e (List.mem_append_right _ (List.mem_flatMap.2 ⟨_, h, ?_⟩))
    rw [subB, if_neg (by rw [e]; simp [au_, ak_])]
    refine List.mem_append_right _ (List.mem_flatMap.2 ⟨z, hz, ?_⟩)
    rw [e, if_pos ⟨hk, rfl, rfl⟩]; simp [au_]
  · intro a r b e h
    refine s2 e (List.mem_append_left _ ?_)
    rw [e, if_pos (show ak_ (au_ a r b).b [33] ∈ l from h)]; simp [au_]
  · intro a r b e h
    refine s1 e (List.mem_append_right _ (List.mem_flatMap.2 ⟨_, h, ?_⟩))
    rw [subB, if_neg (by rw [e]; simp [au_, ak_])]
    refine List.mem_append_left _ ?_
    rw [e, if_pos (show (ak_ b [33]).b = [33] from rfl)]; simp [au_]
  · intro z a hz hk e
    refine s1 e (List.mem_append_left _ (List.mem_flatMap.2 ⟨z, hz, ?_⟩))
    rw [e, if_neg (by rw [hk]; simp), if_neg (by rw [hk]; simp), if_neg (by rw [hk]; simp), if_pos ⟨hk, rfl⟩]; simp [ak_]
  · intro y h3 hy hk ha hr _ hl
    refine s3 h3 (List.mem_append_left _ (List.mem_flatMap.2 ⟨y, hy, ?_⟩))
    rw [cn_, if_neg (by simp [hk, ha, hr]), if_pos hl]; simp
  · intro y h3 hy hk ha hr _ hl
    refine s3 h3 (List.mem_append_left _ (List.mem_flatMap.2 ⟨y, hy, ?_⟩))
    rw [cn_, if_neg (by simp [hk, ha, hr]), if_neg (Int.not_le.2 hl)]; simp
  · intro z a lo hi hz hk e h1 h2
    refine s3 (by rw [e]; rfl) (List.mem_append_right _ (List.mem_flatMap.2 ⟨z, hz, ?_⟩))
    rw [e, cS_, if_pos ⟨hk, rfl, h1, h2⟩]; simp [aF_]
theorem cW_ {α β : Type} {g : α → List β} {n : Nat} : ∀ (l : List α), (∀ x ∈ l, (g x).length ≤ n) → (l.flatMap g).length ≤ l.length * n
  | [], _ => by simp
  | x :: l, h => by
    have := cW_ l fun y hy => h y (by simp [hy])
    have hx := h x (by simp)
    simp only [List.flatMap_cons, List.length_append, List.length_cons, Nat.add_mul, Nat.one_mul]
    omega
theorem fE_ (hp : p.length ≤ 100) (hl : l.length ≤ 65536) : (cc_ p l f).length ≤ 14000000 := by
  have a1 : (subA p l f).length ≤ p.length * 1 := cW_ p fun x _ => by (repeat' split) <;> simp
  have a2 : ∀ y, (rj_ p f y).length ≤ p.length * 1 := fun y => cW_ p fun x _ => by split <;> simp
  have a3 : (l.flatMap (subB p f)).length ≤ l.length * 101 := cW_ l fun y _ => by
    have := a2 y
    unfold subB
    split
    · simp
    · rw [List.length_append]
      split <;> simp <;> omega
  have a4 : ∀ x y, (bT_ x f y).length ≤ 2 := fun x y => by
    unfold bT_
    repeat' split
    all_goals simp
  have a5 : (p.flatMap (bD_ l f)).length ≤ p.length * 131072 := cW_ p fun x _ => by
    unfold bD_
    split
    · simp
    · split
      · simp
      · split
        · have := cW_ l fun y _ => a4 x y
          omega
        · simp
  have a6 : (l.flatMap (cn_ f)).length ≤ l.length * 1 := cW_ l fun y _ => by
    unfold cn_
    repeat' split
    all_goals simp
  have a7 : (p.flatMap (cS_ f)).length ≤ p.length * 1 := cW_ p fun y _ => by
    unfold cS_
    split <;> simp
  unfold cc_
  split
  · rw [kD_, List.length_append]; omega
  · split
    · rw [fJ_, List.length_append]
      have : (if ak_ f.b [33] ∈ l then [ak_ f.a [33]] else []).length ≤ 1 := by split <;> simp
      omega
    · rw [gc_, List.length_append]; omega
theorem gF_ (hF : ∀ y ∈ l, y.form) (y : Fc) : y ∈ cN_ p A ++ l.flatMap (fun f => cc_ p l f) ↔ ed_ p A (· ∈ l) y := by
  constructor
  · intro hy
    rcases List.mem_append.1 hy with hy | hy
    · rw [kx_] at hy; exact gP_ y hy
    · obtain ⟨f, hf, hy⟩ := List.mem_flatMap.1 hy
      exact lu_ hf hF y hy
  · intro hy
    refine ml_ (c := l) (good := fun y => y ∈ cN_ p A ++ l.flatMap (fun f => cc_ p l f)) (fun y hy => List.mem_append_left _ (by rw [kx_]; exact hy)) (fun f hf => ?_) hy
    exact mz_.up fun y hy => List.mem_append_right _ (List.mem_flatMap.2 ⟨f, hf, hy⟩)
end
def grow1 (p : List Pc) (A : List Str) (l : List Fc) : List Fc := (cN_ p A ++ l.flatMap (fun f => cc_ p l f)).foldl eS_ l
def iu_ (p : List Pc) (A : List Str) : Nat → List Fc
  | 0 => []
  | n + 1 => grow1 p A (iu_ p A n)
theorem jy_ : ∀ (xs l : List Fc) (y : Fc), y ∈ xs.foldl eS_ l ↔ y ∈ l ∨ y ∈ xs
  | [], l, y => by simp
  | x :: xs, l, y => by
    rw [List.foldl_cons, jy_ xs, mg_]
    simp only [List.mem_cons]
    constructor
    · rintro ((h | h) | h)
      · exact .inl h
      · exact .inr (.inl h)
      · exact .inr (.inr h)
    · rintro (h | h | h)
      · exact .inl (.inl h)
      · exact .inl (.inr h)
      · exact .inr h
theorem jx_ : ∀ (xs : List Fc) {l : List Fc}, Srt l → Srt (xs.foldl eS_ l)
  | [], _, h => h
  | x :: xs, _, h => jx_ xs (mf_ x h)
theorem jI_ (p : List Pc) (A : List Str) : ∀ n, Srt (iu_ p A n)
  | 0 => List.Pairwise.nil
  | n + 1 => jx_ _ (jI_ p A n)
theorem hZ_ {p : List Pc} {A : List Str} (hp : ∀ x ∈ p, x.vok) : ∀ n, ∀ y ∈ iu_ p A n, Der p A y
  | 0, y, hy => by simp [iu_] at hy
  | n + 1, y, hy => by
    have ih := hZ_ (A := A) hp n
    rcases (jy_ _ _ y).1 hy with h | h
    · exact ih y h
    · exact Der.step (((gF_ (fun z hz => (ih z hz).form hp) y).1 h).mono (fun x hx => ⟨x, hx, x.frm, rfl⟩) (fun _ h => h) ih (fun _ _ h => h))
theorem mn_ {p : List Pc} {A : List Str} (hp : ∀ x ∈ p, x.vok) (n m : Nat) (hc : ((cN_ p A ++ (iu_ p A n).flatMap (fun f => cc_ p (iu_ p A n) f)).all fun y => decide (y ∈ iu_ p A n)) = true) (hl : (iu_ p A n).length ≤ m) : eL_ p A m (some (iu_ p A n)) := by
  refine ⟨jI_ p A n, fun y => ⟨hZ_ hp n y, fun h => h.least fun z hz => ?_⟩, hl⟩
  exact of_decide_eq_true (List.all_eq_true.1 hc z ((gF_ (fun w hw => (hZ_ hp n w hw).form hp) z).2 hz))
theorem oK_ {p : List Pc} {A : List Str} (hp : ∀ x ∈ p, x.vok) (n m : Nat) (hl : m < (iu_ p A n).length) : eL_ p A m none := ⟨iu_ p A n, (jI_ p A n).nodup, hZ_ hp n, hl⟩
end Go.Vs
namespace Go.Sx
open Go Go.Vs
theorem iZ_ {P : Program} {f : FuncId} {args : Array Value} {H : Hp} {Γ Γ0 : List Fct} {ι : Type} {ret : ι → Value} {H' : ι → Hp} (B : Hp) (hT : Tri P f args H Γ ret H' (fun _ => []))
    (hΓ : ∀ v : Vw, (∀ p ∈ B, v.im p.1 ∧ v.w.heap[p.1]? = some p.2) → aT_ Γ0 v → aT_ Γ v) : Tri P f args (B ++ H) Γ0 ret (fun x => B ++ H' x) (fun _ => []) := by
  refine ⟨hT.callable, fun v hs hv => ?_⟩
  have hnd := hs.nodup
  rw [List.map_append, List.nodup_append] at hnd
  have hlt : ∀ p ∈ B, p.1 < v.w.heap.size := fun p hp => (Array.getElem?_eq_some_iff.1 (hs.own p (List.mem_append_left _ hp)).1).1
  have h1 : (⟨fun b => v.im b ∨ b ∈ B.map Prod.fst, v.w, v.sl⟩ : Vw).sat H := by
    refine ⟨fun p hp => ⟨(hs.own p (List.mem_append_right _ hp)).1, fun hi => ?_⟩, hnd.2.1, fun b hb => ?_⟩
    · rcases hi with hi | hi
      · exact (hs.own p (List.mem_append_right _ hp)).2 hi
      · exact hnd.2.2 _ hi _ (List.mem_map_of_mem hp) rfl
    · rcases hb with hb | hb
      · exact hs.lt b hb
      · obtain ⟨p, hp, rfl⟩ := List.mem_map.1 hb
        exact hlt p hp
  have hle : v.le ⟨fun b => v.im b ∨ b ∈ B.map Prod.fst, v.w, v.sl⟩ := ⟨fun b h => .inl h, fun _ _ => rfl, rfl⟩
  have h2 := hΓ ⟨fun b => v.im b ∨ b ∈ B.map Prod.fst, v.w, v.sl⟩ (fun p hp => ⟨.inr (List.mem_map_of_mem hp), (hs.own p (List.mem_append_left _ hp)).1⟩) (bz_ hle hv)
  refine (hT.run _ h1 h2).mono ?_
  rintro e w' ⟨x, v', rfl, rfl, g1, _, g3⟩
  have hB : ∀ b, b ∈ B.map Prod.fst → v'.im b := fun b hb => g3.imUp b (.inr hb)
  refine ⟨x, ⟨fun b => v'.im b ∧ b ∉ B.map Prod.fst, v'.w, v'.sl⟩, rfl, rfl, ⟨fun p hp => ?_, ?_, fun b hb => g1.lt b hb.1⟩, trivial, ?_⟩
  · rcases List.mem_append.1 hp with hp | hp
    · refine ⟨?_, fun h => h.2 (List.mem_map_of_mem hp)⟩
      have := (g3.le h1).block p.1 (.inr (List.mem_map_of_mem hp))
      exact this.trans (hs.own p (List.mem_append_left _ hp)).1
    · exact ⟨(g1.own p hp).1, fun h => (g1.own p hp).2 h.1⟩
  · rw [List.map_append, List.nodup_append]
    refine ⟨hnd.1, g1.nodup, fun a ha b hb e => ?_⟩
    subst e
    obtain ⟨p, hp, rfl⟩ := List.mem_map.1 hb
    exact (g1.own p hp).2 (hB _ ha)
  · refine ⟨g3.os, g3.tape, g3.output, g3.size, fun b hb hn => g3.block b hb (fun hm => hn ?_), fun b hb => ⟨g3.imUp b (.inl hb), fun hm => ?_⟩, fun b hb => ?_, fun b hb => ?_, g3.sl, g3.dr⟩
    · rw [List.map_append]; exact List.mem_append_right _ hm
    · obtain ⟨p, hp, rfl⟩ := List.mem_map.1 hm
      exact (hs.own p (List.mem_append_left _ hp)).2 hb
    · rcases g3.imNew b hb.1 with (h | h) | h | h
      · exact .inl h
      · exact absurd h hb.2
      · exact .inr (.inl (by rw [List.map_append]; exact List.mem_append_right _ h))
      · exact .inr (.inr h)
    · rw [List.map_append] at hb ⊢
      rcases List.mem_append.1 hb with h | h
      · exact .inl (List.mem_append_left _ h)
      · exact (g3.hNew b h).imp (List.mem_append_right _) id
structure KeyT (P : Program) (kt : TypeId) {K : Type} [DecidableEq K] (kv : K → Value) : Prop where
  ok : ∀ k, ic_ P kt (kv k)
  nf : ∀ (k : K) (es : List MapEntry) (ks : List K), es.map (·.key) = ks.map kv → k ∉ ks → ee_ P kt (kv k) es none
  sf : ∀ (k : K) (es : List MapEntry) (ks : List K) (i : Nat) (e : MapEntry), es.map (·.key) = ks.map kv → ks.Nodup → ks[i]? = some k → es[i]? = some e → ee_ P kt (kv k) es (some (i, e.val))
  same : ∀ k, Instr.sameBits 10000 (kv k) (kv k) = true
section
variable {P : Program}
theorem jK_ (a b : List UInt8) : ((⟨a.toArray⟩ : ByteArray) == ⟨b.toArray⟩) = decide (a = b) := by
  show (a.toArray == b.toArray) = _
  rw [Bool.eq_iff_iff]
  simp
theorem pN_ {kt : TypeId} (hu : P.underlying kt = some .string) : KeyT P kt str where
  ok := fun k e w => by
    have key : ∀ m, (Instr.checkKey e (m + 1) kt (str k)).run P w = .ok () w := fun m => by simp [Instr.checkKey, run_underlying hu, str]
    exact key 9999
  nf := fun k es ks h hk => ky_ hu (by
    have : ∀ (ks : List Str) (es : List MapEntry) (i : Nat), es.map (·.key) = ks.map str → k ∉ ks → Instr.findNow .string (str k) es i = some none := by
      intro ks
      induction ks with
      | nil => intro es i h _; have : es = [] := by simpa using h
               subst this; rfl
      | cons q ks ih =>
        intro es i h hk
        cases es with
        | nil => simp at h
        | cons e es =>
          simp only [List.map_cons, List.cons.injEq] at h
          simp only [List.mem_cons, not_or] at hk
          have hs : Instr.sameNow .string (str k) e.key = some false := by
            rw [h.1]
            show some ((⟨k.toArray⟩ : ByteArray) == ⟨q.toArray⟩) = some false
            rw [jK_, decide_eq_false hk.1]
          simp only [Instr.findNow, hs]
          exact ih es (i + 1) h.2 hk.2
    exact this ks es 0 h hk)
  sf := fun k es ks i e h hn hi he => ky_ hu (by
    have : ∀ (ks : List Str) (es : List MapEntry) (j i : Nat), es.map (·.key) = ks.map str → ks.Nodup → ks[i]? = some k → es[i]? = some e → Instr.findNow .string (str k) es j = some (some (j + i, e.val)) := by
      intro ks
      induction ks with
      | nil => intro es j i _ _ h; simp at h
      | cons q ks ih =>
        intro es j i h hn hi he
        cases es with
        | nil => simp at h
        | cons x es =>
          simp only [List.map_cons, List.cons.injEq] at h
          rw [List.nodup_cons] at hn
          cases i with
          | zero =>
            simp only [List.getElem?_cons_zero, Option.some.injEq] at hi he
            subst hi; subst he
            have hs : Instr.sameNow .string (str q) x.key = some true := by
              rw [h.1]
              show some ((⟨q.toArray⟩ : ByteArray) == ⟨q.toArray⟩) = some true
              rw [jK_, decide_eq_true rfl]
            simp only [Instr.findNow, hs, Nat.add_zero]
          | succ i =>
            simp only [List.getElem?_cons_succ] at hi he
            have hne : k ≠ q := fun e => hn.1 (e ▸ List.mem_of_getElem? hi)
            have hs : Instr.sameNow .string (str k) x.key = some false := by
              rw [h.1]
              show some ((⟨k.toArray⟩ : ByteArray) == ⟨q.toArray⟩) = some false
              rw [jK_, decide_eq_false hne]
            simp only [Instr.findNow, hs]
            rw [ih es (j + 1) i h.2 hn.2 hi he, show j + 1 + i = j + (i + 1) by omega]
    have := this ks es 0 i h hn hi he
    rwa [Nat.zero_add] at this)
  same := fun k => by
    have key : ∀ m, Instr.sameBits m (str k) (str k) = true := fun m => by
      cases m <;> (show ((⟨k.toArray⟩ : ByteArray) == ⟨k.toArray⟩) = true; rw [jK_, decide_eq_true rfl])
    exact key 10000
theorem fv_ {K : Type} [DecidableEq K] {kt : TypeId} {fs : Array Field} {kv : K → Value} (hu : P.underlying kt = some (.struct fs)) (hok : ∀ k, ic_ P kt (kv k)) (heq : ∀ p q w, (Op.equal kt (kv p) (kv q)).run P w = .ok (decide (p = q)) w) (hsame : ∀ k, Instr.sameBits 10000 (kv k) (kv k) = true) : KeyT P kt kv where
  ok := hok
  nf := fun k es ks h hk => (kU_ hu heq k ks es h).1 hk
  sf := fun k es ks i e h hn hi he => by
    have key : ∀ (ks : List K) (es : List MapEntry) (j i : Nat), es.map (·.key) = ks.map kv → ks.Nodup → ks[i]? = some k → es[i]? = some e → ∀ w, (Instr.findAsking kt (kv k) es j).run P w = .ok (some (j + i, e.val)) w := by
      intro ks
      induction ks with
      | nil => intro es j i _ _ h; simp at h
      | cons q ks ih =>
        intro es j i h hn hi he w
        cases es with
        | nil => simp at h
        | cons x es =>
          simp only [List.map_cons, List.cons.injEq] at h
          rw [List.nodup_cons] at hn
          cases i with
          | zero =>
            simp only [List.getElem?_cons_zero, Option.some.injEq] at hi he
            subst hi; subst he
            simp only [Instr.findAsking, Sem.run_bind, h.1, heq, Result.andThen_ok, decide_true, if_true, Sem.run_pure, Nat.add_zero]
          | succ i =>
            simp only [List.getElem?_cons_succ] at hi he
            have hne : k ≠ q := fun e => hn.1 (e ▸ List.mem_of_getElem? hi)
            simp only [Instr.findAsking, Sem.run_bind, h.1, heq, Result.andThen_ok, hne, decide_false, Bool.false_eq_true, if_false]
            rw [ih es (j + 1) i h.2 hn.2 hi he w, show j + 1 + i = j + (i + 1) by omega]
    intro w
    have hnow : ∀ (x : MapEntry) (r : List MapEntry), Instr.findNow (.struct fs) (kv k) (x :: r) 0 = none := fun x r => by simp [Instr.findNow, Instr.sameNow]
    cases es with
    | nil => simp at he
    | cons x r =>
      simp only [Instr.findKey, Sem.run_bind, run_underlying hu, Result.andThen_ok, hnow]
      have := key ks (x :: r) 0 i h hn hi he w
      rwa [Nat.zero_add] at this
  same := hsame
end
theorem eH_ (n : Nat) {k : IntKind} (i : Int) : Instr.sameBits n (.int k i) (.int k i) = true := by
  cases n <;> simp [Instr.sameBits]
theorem dz_ (n : Nat) (s : List UInt8) : Instr.sameBits n (str s) (str s) = true := by
  cases n <;> (show ((⟨s.toArray⟩ : ByteArray) == ⟨s.toArray⟩) = true; rw [jK_, decide_eq_true rfl])
theorem hK_ {n : Nat} {l : List Value} (h : ∀ v ∈ l, Instr.sameBits n v v = true) : Instr.sameBits (n + 1) (.agg l.toArray) (.agg l.toArray) = true := by
  simp only [Instr.sameBits, BEq.rfl, Bool.true_and, List.all_eq_true]
  intro p hp
  have : ∀ (l : List Value), (∀ v ∈ l, Instr.sameBits n v v = true) → ∀ p ∈ l.zip l, Instr.sameBits n p.1 p.2 = true := by
    intro l
    induction l with
    | nil => intro _ p hp; simp at hp
    | cons a l ih =>
      intro h p hp
      simp only [List.zip_cons_cons, List.mem_cons] at hp
      rcases hp with rfl | hp
      · exact h a (by simp)
      · exact ih (fun v hv => h v (by simp [hv])) p hp
  exact this l h p hp
structure Born (es : Array MapEntry) (c : Nat) : Prop where
  lt : ∀ x ∈ es.toList, x.born < c
  nd : (es.toList.map (·.born)).Nodup
theorem Born.nil (c : Nat) : Born #[] c := ⟨by simp, by simp⟩
theorem Born.push {es : Array MapEntry} {c : Nat} (h : Born es c) (key val : Value) : Born (es.push ⟨key, val, c⟩) (c + 1) := by
  refine ⟨fun x hx => ?_, ?_⟩
  · rw [Array.toList_push, List.mem_append] at hx
    rcases hx with hx | hx
    · exact Nat.lt_succ_of_lt (h.lt x hx)
    · rw [List.mem_singleton] at hx; rw [hx]; exact Nat.lt_succ_self _
  · rw [Array.toList_push, List.map_append, List.nodup_append]
    refine ⟨h.nd, by simp, fun a ha b hb e => ?_⟩
    obtain ⟨x, hx, rfl⟩ := List.mem_map.1 ha
    simp at hb
    have := h.lt x hx
    omega
theorem Born.modify {es : Array MapEntry} {c : Nat} (h : Born es c) (i : Nat) (f : MapEntry → MapEntry) (hf : ∀ e, (f e).born = e.born) : Born (es.modify i f) c := by
  have hb : (es.modify i f).toList.map (·.born) = es.toList.map (·.born) := by
    apply List.ext_getElem?
    intro j
    simp only [List.getElem?_map, Array.getElem?_toList, Array.getElem?_modify]
    split
    · cases es[j]? <;> simp [hf]
    · rfl
  refine ⟨fun x hx => ?_, by rw [hb]; exact h.nd⟩
  have : x.born ∈ (es.modify i f).toList.map (·.born) := List.mem_map_of_mem hx
  rw [hb] at this
  obtain ⟨y, hy, e⟩ := List.mem_map.1 this
  rw [← e]; exact h.lt y hy
theorem Born.find {es : Array MapEntry} {c i : Nat} {x : MapEntry} (h : Born es c) (hx : es[i]? = some x) : es.findIdx? (fun e => (e.born : Int) == (x.born : Int)) = some i := by
  rw [Array.findIdx?_eq_some_iff_getElem]
  obtain ⟨hi, rfl⟩ := Array.getElem?_eq_some_iff.1 hx
  refine ⟨hi, by simp, fun j hj => ?_⟩
  simp only [beq_eq_false_iff_ne, ne_eq, Bool.not_eq_true]
  intro e
  have hji : j < es.size := Nat.lt_trans hj hi
  have := h.nd
  rw [List.nodup_iff_pairwise_ne, List.pairwise_iff_getElem] at this
  have := this j i (by simpa using hji) (by simpa using hi) hj
  simp at this
  exact this (by exact_mod_cast e)
section
variable {K D : Type} [DecidableEq K] (kv : K → Value) (cells : D → List Value) (e : TypeId) (sz : Nat) (l : List (K × D))
def fU_ : List K → List MapEntry → Hp → Prop
  | [], [], H => H = []
  | k :: ks, x :: es, H => ∃ Hk Hr, H = Hk ++ Hr ∧ x.key = kv k ∧ aQ_ e sz x.val (lat l k).length ((lat l k).flatMap cells) Hk ∧ fU_ ks es Hr
  | _, _, _ => False
def dt_ (mb : Nat) (H : Hp) : Prop := ∃ ks es c Hr, H = (mb, .map es c) :: Hr ∧ ks.Nodup ∧ (∀ x ∈ l, x.1 ∈ ks) ∧ fU_ kv cells e sz l ks es.toList Hr ∧ Born es c
end
section
variable {K D : Type} [DecidableEq K] {kv : K → Value} {cells : D → List Value} {e : TypeId} {sz : Nat} {l : List (K × D)}
theorem fU_.keys : ∀ {ks : List K} {es : List MapEntry} {H : Hp}, fU_ kv cells e sz l ks es H → es.map (·.key) = ks.map kv
  | [], [], _, _ => rfl
  | k :: ks, x :: es, _, h => by
    obtain ⟨Hk, Hr, _, h1, _, h2⟩ := h
    simp [h1, h2.keys]
  | [], _ :: _, _, h => h.elim
  | _ :: _, [], _, h => h.elim
theorem fU_.congr {l' : List (K × D)} : ∀ {ks : List K} {es : List MapEntry} {H : Hp}, (∀ k ∈ ks, lat l' k = lat l k) → fU_ kv cells e sz l ks es H → fU_ kv cells e sz l' ks es H
  | [], [], _, _, h => h
  | k :: ks, x :: es, _, hl, h => by
    obtain ⟨Hk, Hr, h0, h1, h2, h3⟩ := h
    exact ⟨Hk, Hr, h0, h1, by rw [hl k (by simp)]; exact h2, h3.congr fun q hq => hl q (by simp [hq])⟩
  | [], _ :: _, _, _, h => h.elim
  | _ :: _, [], _, _, h => h.elim
theorem fU_.get : ∀ {ks : List K} {es : List MapEntry} {H : Hp} {i : Nat} {k : K}, fU_ kv cells e sz l ks es H → ks.Nodup → ks[i]? = some k → ∃ x Hk Hr, es[i]? = some x ∧ H.Perm (Hk ++ Hr) ∧ x.key = kv k ∧ aQ_ e sz x.val (lat l k).length ((lat l k).flatMap cells) Hk ∧
      ∀ (l' : List (K × D)) (y : MapEntry) (Hk' : Hp), y.key = kv k → (∀ q, q ≠ k → lat l' q = lat l q) → aQ_ e sz y.val (lat l' k).length ((lat l' k).flatMap cells) Hk' → ∃ H', fU_ kv cells e sz l' ks (es.set i y) H' ∧ H'.Perm (Hk' ++ Hr)
  | [], _, _, _, _, _, _, h => by simp at h
  | _ :: _, [], _, _, _, h, _, _ => h.elim
  | q :: ks, x :: es, H, 0, k, h, hn, hi => by
    simp only [List.getElem?_cons_zero, Option.some.injEq] at hi
    subst hi
    rw [List.nodup_cons] at hn
    obtain ⟨Hk, Hr, h0, h1, h2, h3⟩ := h
    exact ⟨x, Hk, Hr, rfl, h0 ▸ .refl _, h1, h2, fun l' y Hk' g1 g2 g3 => ⟨Hk' ++ Hr, ⟨Hk', Hr, rfl, g1, g3, h3.congr fun z hz => g2 z (fun e => hn.1 (e ▸ hz))⟩, .refl _⟩⟩
  | q :: ks, x :: es, H, i + 1, k, h, hn, hi => by
    simp only [List.getElem?_cons_succ] at hi
    rw [List.nodup_cons] at hn
    obtain ⟨Hq, Ho, h0, h1, h2, h3⟩ := h
    obtain ⟨y, Hk, Hr, i1, i2, i3, i4, i5⟩ := h3.get hn.2 hi
    have hne : q ≠ k := fun e => hn.1 (e ▸ List.mem_of_getElem? hi)
    refine ⟨y, Hk, Hq ++ Hr, i1, ?_, i3, i4, fun l' z Hk' g1 g2 g3 => ?_⟩
    · rw [h0]
      refine (List.Perm.append_left Hq i2).trans ?_
      rw [← List.append_assoc, ← List.append_assoc]
      exact List.perm_append_comm.append_right _
    · obtain ⟨H', j1, j2⟩ := i5 l' z Hk' g1 g2 g3
      refine ⟨Hq ++ H', ⟨Hq, H', rfl, h1, by rw [g2 q hne]; exact h2, j1⟩, (List.Perm.append_left Hq j2).trans ?_⟩
      rw [← List.append_assoc, ← List.append_assoc]
      exact List.perm_append_comm.append_right _
theorem fU_.push : ∀ {ks : List K} {es : List MapEntry} {H : Hp} {k : K} {x : MapEntry} {Hk : Hp}, fU_ kv cells e sz l ks es H → x.key = kv k → aQ_ e sz x.val (lat l k).length ((lat l k).flatMap cells) Hk → fU_ kv cells e sz l (ks ++ [k]) (es ++ [x]) (H ++ Hk)
  | [], [], _, k, x, Hk, h, h1, h2 => by subst h; exact ⟨Hk, [], by simp, h1, h2, rfl⟩
  | q :: ks, y :: es, _, k, x, Hk, h, h1, h2 => by
    obtain ⟨Hq, Hr, rfl, g1, g2, g3⟩ := h
    exact ⟨Hq, Hr ++ Hk, by simp, g1, g2, g3.push h1 h2⟩
  | [], _ :: _, _, _, _, _, h, _, _ => h.elim
  | _ :: _, [], _, _, _, _, h, _, _ => h.elim
theorem he_ {k q : K} {d : D} (h : q ≠ k) : lat (l ++ [(k, d)]) q = lat l q := by
  rw [jt_]; simp [lat, Ne.symm h]
theorem dc_ {k : K} {d : D} : lat (l ++ [(k, d)]) k = lat l k ++ [d] := by
  rw [jt_]; simp [lat]
theorem dt_.open {P : Program} {kt : TypeId} (hK : KeyT P kt kv) {mb : Nat} {H : Hp} (h : dt_ kv cells e sz l mb H) (k : K) :
    ∃ es c sv Hk Hr, H.Perm ((mb, .map es c) :: (Hk ++ Hr)) ∧ aQ_ e sz sv (lat l k).length ((lat l k).flatMap cells) Hk ∧
      ((ee_ P kt (kv k) es.toList none ∧ sv = .slice none 0 0 ∧ ∀ d sv' Hk', aQ_ e sz sv' (lat (l ++ [(k, d)]) k).length ((lat (l ++ [(k, d)]) k).flatMap cells) Hk' → ∃ H', dt_ kv cells e sz (l ++ [(k, d)]) mb H' ∧ H'.Perm ((mb, .map (es.push ⟨kv k, sv', c⟩) (c + 1)) :: (Hk' ++ Hr))) ∨
       (∃ i x, ee_ P kt (kv k) es.toList (some (i, sv)) ∧ es[i]? = some x ∧ x.key = kv k ∧ x.val = sv ∧ ∀ d sv' Hk', aQ_ e sz sv' (lat (l ++ [(k, d)]) k).length ((lat (l ++ [(k, d)]) k).flatMap cells) Hk' → ∃ H', dt_ kv cells e sz (l ++ [(k, d)]) mb H' ∧ H'.Perm ((mb, .map (es.modify i fun y => { y with key := kv k, val := sv' }) c) :: (Hk' ++ Hr)))) := by
  obtain ⟨ks, es, c, Ho, rfl, hn, hl, hm, hbn⟩ := h
  by_cases hk : k ∈ ks
  · obtain ⟨i, hi⟩ := List.getElem?_of_mem hk
    obtain ⟨x, Hk, Hr, g1, g2, g3, g4, g5⟩ := hm.get hn hi
    have hx : es[i]? = some x := by rw [← Array.getElem?_toList]; exact g1
    refine ⟨es, c, x.val, Hk, Hr, .cons _ g2, g4, .inr ⟨i, x, hK.sf k es.toList ks i x hm.keys hn hi g1, hx, g3, rfl, fun d sv' Hk' hs => ?_⟩⟩
    obtain ⟨H', j1, j2⟩ := g5 (l ++ [(k, d)]) { x with key := kv k, val := sv' } Hk' rfl (fun q hq => he_ hq) hs
    refine ⟨(mb, .map (es.modify i fun y => { y with key := kv k, val := sv' }) c) :: H', ⟨ks, _, c, H', rfl, hn, fun y hy => ?_, ?_, hbn.modify i _ fun _ => rfl⟩, .cons _ j2⟩
    · rcases List.mem_append.1 hy with hy | hy
      · exact hl y hy
      · simp at hy; rw [hy]; exact hk
    · have e1 : (es.modify i fun y => { y with key := kv k, val := sv' }).toList = es.toList.set i { x with key := kv k, val := sv' } := by
        apply List.ext_getElem?
        intro j
        rw [Array.getElem?_toList, Array.getElem?_modify, List.getElem?_set, Array.getElem?_toList]
        by_cases hij : i = j
        · subst hij
          have hlt : i < es.toList.length := (List.getElem?_eq_some_iff.1 g1).1
          simp only [if_true, hx, Option.map_some, if_pos hlt]
        · simp [hij]
      rw [e1]; exact j1
  · have hlat : lat l k = [] := by
      apply List.eq_nil_iff_forall_not_mem.2
      intro d hd
      exact hk (hl _ (dd_.1 hd))
    refine ⟨es, c, .slice none 0 0, [], Ho, .refl _, by rw [hlat]; exact aQ_.nil _ _, .inl ⟨hK.nf k es.toList ks hm.keys hk, rfl, fun d sv' Hk' hs => ?_⟩⟩
    refine ⟨(mb, .map (es.push ⟨kv k, sv', c⟩) (c + 1)) :: (Ho ++ Hk'), ⟨ks ++ [k], _, _, _, rfl, ?_, fun y hy => ?_, ?_, hbn.push _ _⟩, .cons _ List.perm_append_comm⟩
    · rw [List.nodup_append]; exact ⟨hn, by simp, fun a ha b hb e => by simp at hb; subst hb; subst e; exact hk ha⟩
    · rcases List.mem_append.1 hy with hy | hy
      · exact List.mem_append_left _ (hl y hy)
      · simp at hy; simp [hy]
    · rw [Array.toList_push]
      exact (hm.congr fun q hq => he_ (fun (e : q = k) => hk (e ▸ hq))).push rfl hs
structure MOpn (kv : K → Value) (cells : D → List Value) (e : TypeId) (sz : Nat) (l : List (K × D)) (mb : Nat) (k : K) (es : Array MapEntry) (c i : Nat) (st : Int) (Hr : Hp) : Prop where
  find : es.findIdx? (fun x => (x.born : Int) == st) = some i
  close : ∀ d sv' Hk', aQ_ e sz sv' (lat (l ++ [(k, d)]) k).length ((lat (l ++ [(k, d)]) k).flatMap cells) Hk' → ∃ H', dt_ kv cells e sz (l ++ [(k, d)]) mb H' ∧ H'.Perm ((mb, .map (es.modify i fun y => { y with val := sv' }) c) :: (Hk' ++ Hr))
theorem mL_ {es : Array MapEntry} {i : Nat} {x : MapEntry} {key : Value} (hx : es[i]? = some x) (hk : x.key = key) : (es.modify i fun y => { y with key := key }) = es := by
  apply Array.ext_getElem?
  intro j
  rw [Array.getElem?_modify]
  by_cases hij : i = j
  · subst hij; rw [if_pos rfl, hx]; simp only [Option.map_some]; rw [← hk]
  · rw [if_neg hij]
theorem dt_.entry {P : Program} {kt : TypeId} (hK : KeyT P kt kv) {mb : Nat} {H : Hp} (h : dt_ kv cells e sz l mb H) (k : K) :
    ∃ es c es' c' i st sv Hk Hr, H.Perm ((mb, .map es c) :: (Hk ++ Hr)) ∧ aQ_ e sz sv (lat l k).length ((lat l k).flatMap cells) Hk ∧ MOpn kv cells e sz l mb k es' c' i st Hr ∧
      ((ee_ P kt (kv k) es.toList none ∧ sv = .slice none 0 0 ∧ es' = es.push ⟨kv k, .slice none 0 0, c⟩ ∧ c' = c + 1 ∧ st = (c : Int)) ∨ (∃ j x, ee_ P kt (kv k) es.toList (some (j, sv)) ∧ es[j]? = some x ∧ x.key = kv k ∧ es' = es ∧ c' = c ∧ st = (x.born : Int))) := by
  have h0 := h
  obtain ⟨ks, es, c, Ho, rfl, hn, hl, hm, hbn⟩ := h0
  by_cases hk : k ∈ ks
  · obtain ⟨i, hi⟩ := List.getElem?_of_mem hk
    obtain ⟨x, Hk, Hr, g1, g2, g3, g4, g5⟩ := hm.get hn hi
    have hx : es[i]? = some x := by rw [← Array.getElem?_toList]; exact g1
    refine ⟨es, c, es, c, i, x.born, x.val, Hk, Hr, .cons _ g2, g4, ⟨hbn.find hx, fun d sv' Hk' hs => ?_⟩, .inr ⟨i, x, hK.sf k es.toList ks i x hm.keys hn hi g1, hx, g3, rfl, rfl, rfl⟩⟩
    obtain ⟨H', j1, j2⟩ := g5 (l ++ [(k, d)]) { x with key := kv k, val := sv' } Hk' rfl (fun q hq => he_ hq) hs
    refine ⟨(mb, .map (es.modify i fun y => { y with val := sv' }) c) :: H', ⟨ks, _, c, H', rfl, hn, fun y hy => ?_, ?_, hbn.modify i _ fun _ => rfl⟩, .cons _ j2⟩
    · rcases List.mem_append.1 hy with hy | hy
      · exact hl y hy
      · simp at hy; rw [hy]; exact hk
    · have e1 : (es.modify i fun y => { y with val := sv' }).toList = es.toList.set i { x with key := kv k, val := sv' } := by
        apply List.ext_getElem?
        intro j
        rw [Array.getElem?_toList, Array.getElem?_modify, List.getElem?_set, Array.getElem?_toList]
        by_cases hij : i = j
        · subst hij
          have hlt : i < es.toList.length := (List.getElem?_eq_some_iff.1 g1).1
          simp only [if_true, hx, Option.map_some, if_pos hlt]
          rw [← g3]
        · simp [hij]
      rw [e1]; exact j1
  · have hlat : lat l k = [] := by
      apply List.eq_nil_iff_forall_not_mem.2
      intro d hd
      exact hk (hl _ (dd_.1 hd))
    have hb2 := hbn.push (kv k) (.slice none 0 0)
    have hget : (es.push ⟨kv k, .slice none 0 0, c⟩)[es.size]? = some ⟨kv k, .slice none 0 0, c⟩ := by simp
    refine ⟨es, c, es.push ⟨kv k, .slice none 0 0, c⟩, c + 1, es.size, (c : Int), .slice none 0 0, [], Ho, .refl _, by rw [hlat]; exact aQ_.nil _ _, ⟨hb2.find hget, fun d sv' Hk' hs => ?_⟩, .inl ⟨hK.nf k es.toList ks hm.keys hk, rfl, rfl, rfl, rfl⟩⟩
    have e2 : ((es.push ⟨kv k, .slice none 0 0, c⟩).modify es.size fun y => { y with val := sv' }) = es.push ⟨kv k, sv', c⟩ := by
      apply Array.ext_getElem?
      intro j
      rw [Array.getElem?_modify, Array.getElem?_push, Array.getElem?_push]
      by_cases hj : j = es.size
      · subst hj; simp
      · rw [if_neg (fun q => hj q.symm), if_neg hj, if_neg hj]
    rw [e2]
    refine ⟨(mb, .map (es.push ⟨kv k, sv', c⟩) (c + 1)) :: (Ho ++ Hk'), ⟨ks ++ [k], _, _, _, rfl, ?_, fun y hy => ?_, ?_, hbn.push _ _⟩, .cons _ List.perm_append_comm⟩
    · rw [List.nodup_append]; exact ⟨hn, by simp, fun a ha b hb e => by simp at hb; subst hb; subst e; exact hk ha⟩
    · rcases List.mem_append.1 hy with hy | hy
      · exact List.mem_append_left _ (hl y hy)
      · simp at hy; simp [hy]
    · rw [Array.toList_push]
      exact (hm.congr fun q hq => he_ (fun (e : q = k) => hk (e ▸ hq))).push rfl hs
theorem dt_.nil (mb : Nat) (c : Nat) : dt_ kv cells e sz ([] : List (K × D)) mb [(mb, .map #[] c)] := ⟨[], #[], c, [], rfl, List.nodup_nil, by simp, rfl, Born.nil c⟩
def mlF (P : Program) (kt : TypeId) (kv : K → Value) (cells : D → List Value) (mb : Nat) (l : List (K × D)) (adr : K → Option Addr × Nat) : Fct where
  p := fun v => v.im mb ∧ ∃ es c, v.w.heap[mb]? = some (.map es c) ∧ ∀ k, bl_ v (adr k).1 ((lat l k).flatMap cells) ∧
    ((ee_ P kt (kv k) es.toList none ∧ Value.slice (adr k).1 (lat l k).length (adr k).2 = .slice none 0 0) ∨ ∃ i, ee_ P kt (kv k) es.toList (some (i, .slice (adr k).1 (lat l k).length (adr k).2)))
  mono := fun v v' h ⟨h1, es, c, h2, h3⟩ => ⟨h.imUp mb h1, es, c, by rw [h.block mb h1]; exact h2, fun k => ⟨(az_ _ _).mono v v' h (h3 k).1, (h3 k).2⟩⟩
theorem bO_ {P : Program} {kt : TypeId} {mb : Nat} {adr : K → Option Addr × Nat} {v : Vw} (h : (mlF P kt kv cells mb l adr).p v) (k : K) : bl_ v (adr k).1 ((lat l k).flatMap cells) := by
  obtain ⟨_, _, _, _, h⟩ := h
  exact (h k).1
theorem nW_ {sv : Value} {n : Nat} {xs : List Value} {Hr : Hp} {v : Vw} (h : aQ_ e sz sv n xs Hr) (hv : ∀ p ∈ Hr, v.im p.1 ∧ v.w.heap[p.1]? = some p.2) : ∃ ad cap, sv = .slice ad n cap ∧ n ≤ cap ∧ cap ≤ maxLen ∧ (n ≠ 0 → ∃ b, ad = some ⟨b, 0, none⟩) ∧ bl_ v ad xs := by
  rcases h.2 with ⟨rfl, rfl, rfl⟩ | ⟨g, cap, cur, rfl, rfl, h3, h4, h5, h6⟩
  · have : xs = [] := List.eq_nil_of_length_eq_zero (by simpa using h.1)
    exact ⟨none, 0, rfl, Nat.le_refl _, by simp [maxLen], fun h => absurd rfl h, .inl this⟩
  · obtain ⟨g1, g2⟩ := hv _ (List.mem_singleton.2 rfl)
    refine ⟨some ⟨g, 0, none⟩, cap, rfl, h3, h4, fun _ => ⟨g, rfl⟩, .inr ⟨g, 0, cur, e, (0, 0), rfl, g1, g2, fun j x hj => ?_⟩⟩
    rw [← h6, List.getElem?_take] at hj
    split at hj
    · rw [Nat.zero_add, ← Array.getElem?_toList]; exact hj
    · cases hj
theorem dt_.lent {P : Program} {kt : TypeId} (hK : KeyT P kt kv) {mb : Nat} {H : Hp} (h : dt_ kv cells e sz l mb H) : ∃ adr, ∀ v : Vw, (∀ p ∈ H, v.im p.1 ∧ v.w.heap[p.1]? = some p.2) → (mlF P kt kv cells mb l adr).p v := by
  have h0 := h
  obtain ⟨ks, es, c, Ho, rfl, hn, hl, hm, _⟩ := h0
  have key : ∀ k, ∃ q : Option Addr × Nat, ∀ v : Vw, (∀ p ∈ (mb, Obj.map es c) :: Ho, v.im p.1 ∧ v.w.heap[p.1]? = some p.2) → bl_ v q.1 ((lat l k).flatMap cells) ∧ ((ee_ P kt (kv k) es.toList none ∧ Value.slice q.1 (lat l k).length q.2 = .slice none 0 0) ∨ ∃ i, ee_ P kt (kv k) es.toList (some (i, .slice q.1 (lat l k).length q.2))) := fun k => by
    by_cases hk : k ∈ ks
    · obtain ⟨i, hi⟩ := List.getElem?_of_mem hk
      obtain ⟨x, Hk, Hr, g1, g2, g3, g4, _⟩ := hm.get hn hi
      have hf := hK.sf k es.toList ks i x hm.keys hn hi g1
      have hsl : ∃ ad cap, x.val = .slice ad (lat l k).length cap := by
        rcases g4.2 with ⟨q1, q2, _⟩ | ⟨g, cap, cur, q1, _⟩
        · exact ⟨none, 0, by rw [q1, q2]⟩
        · exact ⟨_, cap, q1⟩
      obtain ⟨ad, cap, hx⟩ := hsl
      refine ⟨(ad, cap), fun v hv => ⟨?_, .inr ⟨i, by rw [← hx]; exact hf⟩⟩⟩
      obtain ⟨ad', cap', e1, _, _, _, hr⟩ := nW_ g4 fun p hp => hv p (List.mem_cons_of_mem _ (g2.mem_iff.2 (List.mem_append_left _ hp)))
      rw [hx] at e1
      simp only [Value.slice.injEq] at e1
      rw [e1.1]; exact hr
    · have hlat : lat l k = [] := by
        apply List.eq_nil_iff_forall_not_mem.2
        intro d hd
        exact hk (hl _ (dd_.1 hd))
      exact ⟨(none, 0), fun v hv => ⟨.inl (by rw [hlat]; rfl), .inl ⟨hK.nf k es.toList ks hm.keys hk, by rw [hlat]; rfl⟩⟩⟩
  refine ⟨fun k => (key k).choose, fun v hv => ?_⟩
  obtain ⟨g1, g2⟩ := hv _ List.mem_cons_self
  exact ⟨g1, es, c, g2, fun k => (key k).choose_spec v hv⟩
end
section
variable {P : Program} {K : Type} [DecidableEq K] {kv : K → Value} {kt : TypeId}
structure SetE (kv : K → Value) (es : Array MapEntry) (q : List K) : Prop where
  keys : es.toList.map (·.key) = q.map kv
  vals : ∀ x ∈ es.toList, x.val = .bool true
  nd : q.Nodup
theorem SetE.nil : SetE kv #[] ([] : List K) := ⟨rfl, by simp, List.nodup_nil⟩
theorem SetE.size {es : Array MapEntry} {q : List K} (h : SetE kv es q) : es.size = q.length := by
  have := congrArg List.length h.keys
  simpa using this
theorem SetE.yes (hK : KeyT P kt kv) {es : Array MapEntry} {q : List K} (h : SetE kv es q) {k : K} (hk : k ∈ q) : ∃ i x, q[i]? = some k ∧ es[i]? = some x ∧ x.key = kv k ∧ x.val = .bool true ∧ ee_ P kt (kv k) es.toList (some (i, .bool true)) := by
  obtain ⟨i, hi⟩ := List.getElem?_of_mem hk
  have hlt : i < es.toList.length := by
    have := (List.getElem?_eq_some_iff.1 hi).1
    have e := congrArg List.length h.keys
    simp at e this ⊢; omega
  have hx := List.getElem?_eq_getElem hlt
  have hv := h.vals _ (List.getElem_mem hlt)
  have hkey : es.toList[i].key = kv k := by
    have := congrArg (fun l => l[i]?) h.keys
    simp only [List.getElem?_map, hx, hi, Option.map_some, Option.some.injEq] at this
    exact this
  refine ⟨i, es.toList[i], hi, by rw [← Array.getElem?_toList]; exact hx, hkey, hv, ?_⟩
  have := hK.sf k es.toList q i _ h.keys h.nd hi hx
  rwa [hv] at this
theorem SetE.no (hK : KeyT P kt kv) {es : Array MapEntry} {q : List K} (h : SetE kv es q) {k : K} (hk : k ∉ q) : ee_ P kt (kv k) es.toList none := hK.nf k es.toList q h.keys hk
theorem SetE.push {es : Array MapEntry} {q : List K} (h : SetE kv es q) {k : K} (hk : k ∉ q) (c : Nat) : SetE kv (es.push ⟨kv k, .bool true, c⟩) (q ++ [k]) := by
  refine ⟨by simp [h.keys], fun x hx => ?_, ?_⟩
  · rw [Array.toList_push, List.mem_append] at hx
    rcases hx with hx | hx
    · exact h.vals x hx
    · simp at hx; rw [hx]
  · rw [List.nodup_append]; exact ⟨h.nd, by simp, fun a ha b hb e => by simp at hb; subst hb; subst e; exact hk ha⟩
end
section ops
variable {P : Program} {N : Nat} {v0 : Vw} {H0 : Hp} {R : Exit → Act → World → Prop} {Kk : List Kt} {fr : Fr} {H : Hp} {Γ : List Fct}
variable {ops : Array Oper} {lo : List Oper} {d : Nat} {ty : TypeId} {ps : String} {af : Array Edge}
variable {K D : Type} [DecidableEq K] {kv : K → Value} {cells : D → List Value}
theorem ct_ {t kt et : TypeId} {x y : Operand} {mb : Nat} {l : List (K × D)} {adr : K → Option Addr × Nat} {k : K} (hK : KeyT P kt kv) (hu : ∀ w, (underlying t).run P w = .ok (.map kt et) w) (hz : ∀ w, (zeroValue et).run P w = .ok (.slice none 0 0) w) (hx : Fr.ev fr x = some (.map (some mb))) (hy : Fr.ev fr y = some (kv k))
    (hm : ∀ v, v.sat H → aT_ Γ v → (mlF P kt kv cells mb l adr).p v) : Yld P N fr H Γ (.lookup t x y false) ty (.slice (adr k).1 (lat l k).length (adr k).2) :=
  fun a v h1 h2 h4 _ _ _ => by
    obtain ⟨_, es, c, g1, g2⟩ := hm v h2 h4
    have hb := MapKept.run_getObj_map (P := P) g1
    rcases (g2 k).2 with ⟨q5, q6⟩ | ⟨i, q5⟩
    · rw [q6]; simp [execOp, h1.ev hx, h1.ev hy, Instr.lookup, hu, hb, hK.ok _ _ _, q5 _, hz]
    · simp [execOp, h1.ev hx, h1.ev hy, Instr.lookup, hu, hb, hK.ok _ _ _, q5 _]
theorem cV_ {t kt et : TypeId} {x y : Operand} {mb c : Nat} {es : Array MapEntry} {q : List K} {k : K} (hK : KeyT P kt kv) (hu : ∀ w, (underlying t).run P w = .ok (.map kt et) w) (hz : ∀ w, (zeroValue et).run P w = .ok (.bool false) w) (hx : Fr.ev fr x = some (.map (some mb))) (hy : Fr.ev fr y = some (kv k))
    (hq : SetE kv es q) (hm : ∀ v, v.sat H → aT_ Γ v → v.w.heap[mb]? = some (.map es c)) : Yld P N fr H Γ (.lookup t x y false) ty (.bool (decide (k ∈ q))) := by
  by_cases hk : k ∈ q
  · obtain ⟨i, _, _, _, _, _, hf⟩ := hq.yes hK hk
    rw [decide_eq_true hk]
    exact iU_ hu hx hy hm (hK.ok k) hf
  · rw [decide_eq_false hk]
    exact hE_ hu hz hx hy hm (hK.ok k) (hq.no hK hk)
theorem oS_ {t kt et : TypeId} {x : Operand} {mb c : Nat} {es : Array MapEntry} (hu : ∀ w, (underlying t).run P w = .ok (.map kt et) w) (hx : Fr.ev fr x = some (.map (some mb))) (hm : ∀ v, v.sat H → aT_ Γ v → v.w.heap[mb]? = some (.map es c)) :
    Yld P N fr H Γ (.call ⟨.builtin .len, #[x], #[t]⟩) ty (.int .i64 (es.size : Int)) :=
  fun a v h1 h2 h4 _ _ _ => by
    have hb := MapKept.run_getObj_map (P := P) (hm v h2 h4)
    simp [execOp, resolve, invoke, builtin, Builtin.len_, h1.ev hx, hu, hb, goInt]
theorem hr_ {o : Op} {t kt et : TypeId} {x y z : Operand} {b c i : Nat} (n : Nat) {es : Array MapEntry} {e : MapEntry} {k : K} {u u' : Value} (hK : KeyT P kt kv) (ho : o = .insert t x y z ∨ o = .mapUpdate t x y z) (hu : ∀ w, (underlying t).run P w = .ok (.map kt et) w)
    (hx : Fr.ev fr x = some (.map (some b))) (hy : Fr.ev fr y = some (kv k)) (hz : Fr.ev fr z = some u) (hi : H[n]? = some (b, .map es c)) (hf : ee_ P kt (kv k) es.toList (some (i, u'))) (he : es[i]? = some e) (hek : e.key = kv k)
    (hkk : Ops P R N v0 H0 ops lo Kk fr (H.set n (b, .map (es.modify i fun y => { y with key := kv k, val := u }) c)) Γ) : Ops P R N v0 H0 ops (⟨none, o, ty, ps, af, none⟩ :: lo) Kk fr H Γ :=
  dl_ rfl fun a v h1 h2 h3 h4 => by
    have hb := (h2.own _ (List.mem_of_getElem? hi)).1
    have hg := MapKept.run_getObj_map (P := P) hb
    have hs := MapKept.run_setObj_map (P := P) (.map (es.modify i fun y => { y with key := kv k, val := u }) c) hb
    have he : (execOp a.eval ⟨none, o, ty, ps, af, none⟩).run P v.w = .ok .skip { v.w with heap := v.w.heap.setIfInBounds b (.map (es.modify i fun y => { y with key := kv k, val := u }) c) } := by
      rcases ho with rfl | rfl <;> simp [execOp, h1.ev hx, h1.ev hy, h1.ev hz, Instr.mapUpdate, hu, hg, hK.ok _ _ _, hf _, hs, Instr.keyThatStays, he, hek, hK.same]
    unfold Oper.wp
    rw [he]
    have hh := MapKept.heap_set (o' := .map (es.modify i fun y => { y with key := kv k, val := u }) c) hb
    obtain ⟨g1, g2⟩ := fr_ (w' := { v.w with heap := v.w.heap.setIfInBounds b (.map (es.modify i fun y => { y with key := kv k, val := u }) c) }) h2 hi rfl rfl rfl (Nat.le_refl _) (by simp) hh.1 (fun k hk => hh.2 k hk)
    exact hkk a _ h1 g1 (h3.trans g2) (bz_ (g2.le h2) h4)
theorem iC_ {es : Array MapEntry} {i : Nat} {e : MapEntry} {key val : Value} (he : es[i]? = some e) (hk : e.key = key) (hv : e.val = val) : (es.modify i fun y => { y with key := key, val := val }) = es := by
  apply Array.ext_getElem?
  intro j
  rw [Array.getElem?_modify]
  by_cases hij : i = j
  · subst hij; rw [if_pos rfl, he]; simp only [Option.map_some]; rw [← hk, ← hv]
  · rw [if_neg hij]
theorem fG_ {o : Op} {t kt et : TypeId} {x y z : Operand} {b c : Nat} (n : Nat) {es : Array MapEntry} {q : List K} {k : K} (hK : KeyT P kt kv) (ho : o = .insert t x y z ∨ o = .mapUpdate t x y z) (hu : ∀ w, (underlying t).run P w = .ok (.map kt et) w)
    (hx : Fr.ev fr x = some (.map (some b))) (hy : Fr.ev fr y = some (kv k)) (hz : Fr.ev fr z = some (.bool true)) (hi : H[n]? = some (b, .map es c)) (hq : SetE kv es q)
    (hkk : ∀ es' c', SetE kv es' (if k ∈ q then q else q ++ [k]) → Ops P R N v0 H0 ops lo Kk fr (H.set n (b, .map es' c')) Γ) : Ops P R N v0 H0 ops (⟨none, o, ty, ps, af, none⟩ :: lo) Kk fr H Γ := by
  by_cases hk : k ∈ q
  · obtain ⟨i, e, g1, g2, g3, g4, g5⟩ := hq.yes hK hk
    refine hr_ n hK ho hu hx hy hz hi g5 g2 g3 ?_
    rw [iC_ g2 g3 g4]
    exact hkk es c (by rw [if_pos hk]; exact hq)
  · exact hs_ n ho hu hx hy hz hi (hK.ok k) (hq.no hK hk) (hkk _ _ (by rw [if_neg hk]; exact hq.push hk c))
theorem dB_ {t kt et : TypeId} {x y : Operand} {mb : Nat} {e : TypeId} {sz : Nat} {l : List (K × D)} {k : K} {Hm F : Hp} (hK : KeyT P kt kv) (hm : dt_ kv cells e sz l mb Hm) (hu : ∀ w, (underlying t).run P w = .ok (.map kt et) w) (hz : ∀ w, (zeroValue et).run P w = .ok (.slice none 0 0) w)
    (hx : Fr.ev fr x = some (.map (some mb))) (hy : Fr.ev fr y = some (kv k)) (hH : H.Perm (Hm ++ F)) (hN : Nat.blt d N = true)
    (hk : ∀ es c i st sv Hk Hr, MOpn kv cells e sz l mb k es c i st Hr → aQ_ e sz sv (lat l k).length ((lat l k).flatMap cells) Hk → Ops P R N v0 H0 ops lo Kk ((d, .tuple #[sv, .int .i64 st]) :: fr) ((mb, .map es c) :: (Hk ++ (Hr ++ F))) Γ) :
    Ops P R N v0 H0 ops (⟨some d, .mapEntry t x y, ty, ps, af, none⟩ :: lo) Kk fr H Γ := by
  obtain ⟨es, c, es', c', i, st, sv, Hk, Hr, p1, p2, p3, p4⟩ := hm.entry hK k
  refine dl_ rfl fun a v h1 h2 h3 h4 => ?_
  have hp : H.Perm ((mb, .map es c) :: (Hk ++ (Hr ++ F))) := hH.trans (by
    have := p1.append_right F
    simpa [List.append_assoc] using this)
  have h2' := h2.perm hp
  have hb := (h2'.own _ List.mem_cons_self).1
  have hg := MapKept.run_getObj_map (P := P) hb
  have he : (execOp a.eval ⟨some d, .mapEntry t x y, ty, ps, af, none⟩).run P v.w = .ok (.value (.tuple #[sv, .int .i64 st])) { v.w with heap := v.w.heap.setIfInBounds mb (.map es' c') } := by
    rcases p4 with ⟨q1, rfl, rfl, rfl, rfl⟩ | ⟨j, z, q1, q2, q3, rfl, rfl, rfl⟩
    · have hs := MapKept.run_setObj_map (P := P) (.map (es.push ⟨kv k, .slice none 0 0, c⟩) (c + 1)) hb
      simp [execOp, h1.ev hx, h1.ev hy, Instr.mapEntry, hu, hg, hK.ok _ _ _, q1 _, hz, hs, goInt]
    · have hs := MapKept.run_setObj_map (P := P) (.map es' c') hb
      simp [execOp, h1.ev hx, h1.ev hy, Instr.mapEntry, hu, hg, hK.ok _ _ _, q1 _, Instr.keyThatStays, q2, q3, hK.same, mL_ q2 q3, hs, goInt]
  unfold Oper.wp
  rw [he]
  have hh := MapKept.heap_set (o' := .map es' c') hb
  obtain ⟨g1, g2⟩ := fr_ (i := 0) (o' := .map es' c') (w' := { v.w with heap := v.w.heap.setIfInBounds mb (.map es' c') }) h2' rfl rfl rfl rfl (Nat.le_refl _) (by simp) hh.1 (fun k hk => hh.2 k hk)
  simp only [List.set_cons_zero] at g1 g2
  exact hk es' c' i st sv Hk Hr p3 p2 _ _ (h1.put hN) g1 (h3.trans (g2.permL hp.symm)) (bz_ (g2.le h2') h4)
theorem ce_ {t : TypeId} {x y z : Operand} {mb c i : Nat} {e : TypeId} {sz : Nat} {l : List (K × D)} {k : K} {dd : D} {es : Array MapEntry} {st : Int} {sv : Value} {Hk Hr F : Hp} (ho : MOpn kv cells e sz l mb k es c i st Hr) (hr : aQ_ e sz sv (lat (l ++ [(k, dd)]) k).length ((lat (l ++ [(k, dd)]) k).flatMap cells) Hk)
    (hx : Fr.ev fr x = some (.map (some mb))) (hy : Fr.ev fr y = some (.int .i64 st)) (hz : Fr.ev fr z = some sv) (hH : H.Perm ((mb, .map es c) :: (Hk ++ (Hr ++ F))))
    (hk : ∀ H', dt_ kv cells e sz (l ++ [(k, dd)]) mb H' → Ops P R N v0 H0 ops lo Kk fr (H' ++ F) Γ) : Ops P R N v0 H0 ops (⟨none, .entryStore t x y z, ty, ps, af, none⟩ :: lo) Kk fr H Γ := by
  obtain ⟨H', q1, q2⟩ := ho.close dd sv Hk hr
  refine dl_ rfl fun a v h1 h2 h3 h4 => ?_
  have h2' := h2.perm hH
  have hb := (h2'.own _ List.mem_cons_self).1
  have hg := MapKept.run_getObj_map (P := P) hb
  have hs := MapKept.run_setObj_map (P := P) (.map (es.modify i fun y => { y with val := sv }) c) hb
  have he : (execOp a.eval ⟨none, .entryStore t x y z, ty, ps, af, none⟩).run P v.w = .ok .skip { v.w with heap := v.w.heap.setIfInBounds mb (.map (es.modify i fun y => { y with val := sv }) c) } := by
    have hf := ho.find
    simp [execOp, h1.ev hx, h1.ev hy, h1.ev hz, Instr.entryStore, hg, hs, asInt, asIntOf, hf]
  unfold Oper.wp
  rw [he]
  have hh := MapKept.heap_set (o' := .map (es.modify i fun y => { y with val := sv }) c) hb
  obtain ⟨g1, g2⟩ := fr_ (i := 0) (o' := .map (es.modify i fun y => { y with val := sv }) c) (w' := { v.w with heap := v.w.heap.setIfInBounds mb (.map (es.modify i fun y => { y with val := sv }) c) }) h2' rfl rfl rfl rfl (Nat.le_refl _) (by simp) hh.1 (fun k hk => hh.2 k hk)
  simp only [List.set_cons_zero] at g1 g2
  have pp : ((mb, Obj.map (es.modify i fun y => { y with val := sv }) c) :: (Hk ++ (Hr ++ F))).Perm (H' ++ F) := by
    have := (q2.append_right F).symm
    simpa [List.append_assoc] using this
  exact hk H' q1 _ _ h1 (g1.perm pp) (h3.trans ((g2.permL hH.symm).subR fun b hb => ((pp.map Prod.fst).mem_iff).2 hb)) (bz_ (g2.le h2') h4)
def MOp (P : Program) (kt : TypeId) (kv : K → Value) (cells : D → List Value) (e : TypeId) (sz : Nat) (l : List (K × D)) (mb : Nat) (k : K) (es : Array MapEntry) (c : Nat) (sv : Value) (Hr : Hp) : Prop :=
  (ee_ P kt (kv k) es.toList none ∧ sv = .slice none 0 0 ∧ ∀ d sv' Hk', aQ_ e sz sv' (lat (l ++ [(k, d)]) k).length ((lat (l ++ [(k, d)]) k).flatMap cells) Hk' → ∃ H', dt_ kv cells e sz (l ++ [(k, d)]) mb H' ∧ H'.Perm ((mb, .map (es.push ⟨kv k, sv', c⟩) (c + 1)) :: (Hk' ++ Hr))) ∨
  (∃ i x, ee_ P kt (kv k) es.toList (some (i, sv)) ∧ es[i]? = some x ∧ x.key = kv k ∧ x.val = sv ∧ ∀ d sv' Hk', aQ_ e sz sv' (lat (l ++ [(k, d)]) k).length ((lat (l ++ [(k, d)]) k).flatMap cells) Hk' → ∃ H', dt_ kv cells e sz (l ++ [(k, d)]) mb H' ∧ H'.Perm ((mb, .map (es.modify i fun y => { y with key := kv k, val := sv' }) c) :: (Hk' ++ Hr)))
theorem nx_ {k0 : Act → World → Prop} {kt : TypeId} {mb : Nat} {e : TypeId} {sz : Nat} {l : List (K × D)} {Hm F : Hp} (hK : KeyT P kt kv) (k : K) (hm : dt_ kv cells e sz l mb Hm) (hH : H.Perm (Hm ++ F))
    (h : ∀ es c sv Hk Hr, aQ_ e sz sv (lat l k).length ((lat l k).flatMap cells) Hk → MOp P kt kv cells e sz l mb k es c sv Hr → Ok N v0 H0 k0 fr ((mb, .map es c) :: (Hk ++ (Hr ++ F))) Γ) : Ok N v0 H0 k0 fr H Γ := by
  obtain ⟨es, c, sv, Hk, Hr, p1, p2, p3⟩ := hm.open hK k
  refine al_ (hH.trans (by
    have := p1.append_right F
    simpa [List.append_assoc] using this)) (h es c sv Hk Hr p2 p3)
theorem gT_ {t kt et : TypeId} {x y : Operand} {mb c : Nat} {e : TypeId} {sz : Nat} {l : List (K × D)} {k : K} {es : Array MapEntry} {sv : Value} {Hr : Hp} (hK : KeyT P kt kv) (ho : MOp P kt kv cells e sz l mb k es c sv Hr) (hu : ∀ w, (underlying t).run P w = .ok (.map kt et) w) (hz : ∀ w, (zeroValue et).run P w = .ok (.slice none 0 0) w)
    (hx : Fr.ev fr x = some (.map (some mb))) (hy : Fr.ev fr y = some (kv k)) (i : Nat) (hi : H[i]? = some (mb, .map es c)) : Yld P N fr H Γ (.lookup t x y false) ty sv := by
  have hm : ∀ v, v.sat H → aT_ Γ v → v.w.heap[mb]? = some (.map es c) := fun v h _ => (h.own _ (List.mem_of_getElem? hi)).1
  rcases ho with ⟨h1, rfl, _⟩ | ⟨i, z, h1, _⟩
  · exact hE_ hu hz hx hy hm (hK.ok k) h1
  · exact iU_ hu hx hy hm (hK.ok k) h1
theorem gi_ {o : Op} {t kt et : TypeId} {x y z : Operand} {mb c : Nat} {e : TypeId} {sz : Nat} {l : List (K × D)} {k : K} {dd : D} {es : Array MapEntry} {sv sv' : Value} {Hk Hr F : Hp} (hK : KeyT P kt kv) (ho : MOp P kt kv cells e sz l mb k es c sv Hr) (hr : aQ_ e sz sv' (lat (l ++ [(k, dd)]) k).length ((lat (l ++ [(k, dd)]) k).flatMap cells) Hk)
    (hop : o = .insert t x y z ∨ o = .mapUpdate t x y z) (hu : ∀ w, (underlying t).run P w = .ok (.map kt et) w) (hx : Fr.ev fr x = some (.map (some mb))) (hy : Fr.ev fr y = some (kv k)) (hz : Fr.ev fr z = some sv') (hH : H.Perm ((mb, .map es c) :: (Hk ++ (Hr ++ F))))
    (hk : ∀ H', dt_ kv cells e sz (l ++ [(k, dd)]) mb H' → Ops P R N v0 H0 ops lo Kk fr (H' ++ F) Γ) : Ops P R N v0 H0 ops (⟨none, o, ty, ps, af, none⟩ :: lo) Kk fr H Γ := by
  refine al_ hH ?_
  rcases ho with ⟨h1, _, h2⟩ | ⟨i, q, h1, h3, h4, _, h2⟩
  · obtain ⟨H', q1, q2⟩ := h2 dd sv' Hk hr
    refine hs_ 0 hop hu hx hy hz rfl (hK.ok k) h1 ?_
    simp only [List.set_cons_zero]
    exact al_ (by have := (q2.append_right F).symm; simpa [List.append_assoc] using this) (hk H' q1)
  · obtain ⟨H', q1, q2⟩ := h2 dd sv' Hk hr
    refine hr_ 0 hK hop hu hx hy hz rfl h1 h3 h4 ?_
    simp only [List.set_cons_zero]
    exact al_ (by have := (q2.append_right F).symm; simpa [List.append_assoc] using this) (hk H' q1)
theorem da_ {b : Nat × Obj} {O Q F : Hp} (h : H.Perm ((b :: (O ++ Q)) ++ F)) : H.Perm (b :: (O ++ (Q ++ F))) := by simpa [List.append_assoc] using h
theorem cj_ {b : Nat × Obj} {F : Hp} (h : H.Perm ([b] ++ F)) : H.Perm (b :: F) := h
theorem bb_ {b : Nat × Obj} {F F' : Hp} (h : H.Perm ([b] ++ F)) (h2 : F.Perm F') : H.Perm (b :: F') := List.Perm.trans h (h2.cons b)
theorem nZ_ {fn : Func} {Rr : Ending → World → Prop} {c : Code} (h : Run P (bodyPost P fn Rr) N v0 H0 c [] fr H Γ) : Run P (bodyPost P fn Rr) N v0 H0 (.scope c) [] fr H Γ :=
  fun a v h1 h2 h3 h4 => wp_scope_straight (wp_mono (h a v h1 h2 h3 h4) fun e a w hq => by cases e <;> exact hq)
theorem oa_ {c : Nat} (h : Fin P R N v0 H0 Kk fr H Γ) : Run P R N v0 H0 (.label c) Kk fr H Γ :=
  fun a v h1 h2 h3 h4 => wp_label (h a v h1 h2 h3 h4)
end ops
end Go.Sx
namespace Go.Sx
open Go
section
variable {P : Program} {N : Nat} {v0 : Vw} {H0 : Hp} {R : Exit → Act → World → Prop} {Kk : List Kt} {fr : Fr} {H : Hp} {Γ : List Fct}
variable {ops : Array Oper} {lo : List Oper} {d : Nat} {ty : TypeId} {ps : String} {af : Array Edge}
variable {K : Type} [DecidableEq K] {kv : K → Value}
theorem oq_ {o : Op} {t kt et : TypeId} {x y z : Operand} {b c : Nat} (n : Nat) {es : Array MapEntry} {q : List K} {k : K} (hK : KeyT P kt kv) (ho : o = .insert t x y z ∨ o = .mapUpdate t x y z) (hu : ∀ w, (underlying t).run P w = .ok (.map kt et) w)
    (hx : Fr.ev fr x = some (.map (some b))) (hy : Fr.ev fr y = some (kv k)) (hz : Fr.ev fr z = some (.bool true)) (hi : H[n]? = some (b, .map es c)) (hq : SetE kv es q)
    (hkk : ∀ es' c', SetE kv es' (if k ∈ q then q else q ++ [k]) → (Born es c → Born es' c') → Ops P R N v0 H0 ops lo Kk fr (H.set n (b, .map es' c')) Γ) : Ops P R N v0 H0 ops (⟨none, o, ty, ps, af, none⟩ :: lo) Kk fr H Γ := by
  by_cases hk : k ∈ q
  · obtain ⟨i, e, g1, g2, g3, g4, g5⟩ := hq.yes hK hk
    refine hr_ n hK ho hu hx hy hz hi g5 g2 g3 ?_
    rw [iC_ g2 g3 g4]
    exact hkk es c (by rw [if_pos hk]; exact hq) id
  · exact hs_ n ho hu hx hy hz hi (hK.ok k) (hq.no hK hk) (hkk _ _ (by rw [if_neg hk]; exact hq.push hk c) (fun hB => hB.push _ _))
theorem oo_ {t kt et : TypeId} {x : Operand} {b c : Nat} (n : Nat) {es : Array MapEntry} (hu : P.underlying t = some (.map kt et)) (hx : Fr.ev fr x = some (.map (some b))) (hi : H[n]? = some (b, .map es c)) (hN : Nat.blt d N = true)
    (hk : ∀ r, Ops P R N v0 H0 ops lo Kk ((d, .pointer (some ⟨r, 0, none⟩)) :: fr) ((r, .mapIter (some b) c #[] c) :: H) Γ) : Ops P R N v0 H0 ops (⟨some d, .range t x, ty, ps, af, none⟩ :: lo) Kk fr H Γ :=
  gh_ (x := fun b => .pointer (some ⟨b, 0, none⟩)) hN (fun a v h1 h2 _ => by
    have hb := (h2.own _ (List.mem_of_getElem? hi)).1
    simp [execOp, h1.ev hx, run_range_map v.w t kt et b es c hu hb]) hk
theorem py_ {it : Operand} {b r c since c0 : Nat} {es : Array MapEntry} {seen : Array Nat} (n m : Nat) (hit : Fr.ev fr it = some (.pointer (some ⟨r, 0, none⟩))) (hr : H[n]? = some (r, .mapIter (some b) since seen c0)) (hb : H[m]? = some (b, .map es c)) (hold : ∀ x ∈ es.toList, x.born < since) (hsc : since ≤ c0) (hN : Nat.blt d N = true)
    (h0 : (leftOf es seen).size = 0 → Ops P R N v0 H0 ops lo Kk ((d, .tuple #[.bool false]) :: fr) H Γ)
    (hk : ∀ e, e ∈ (leftOf es seen).toList → Ops P R N v0 H0 ops lo Kk ((d, .tuple #[.bool true, e.key, e.val]) :: fr) (H.set n (r, .mapIter (some b) since (seen.push e.born) c)) Γ) : Ops P R N v0 H0 ops (⟨some d, .next it false, ty, ps, af, none⟩ :: lo) Kk fr H Γ :=
  dl_ rfl fun a v h1 h2 h3 h4 => by
    have hrr := (h2.own _ (List.mem_of_getElem? hr)).1
    have hbb := (h2.own _ (List.mem_of_getElem? hb)).1
    unfold Oper.wp
    rcases run_next_at (P := P) v.w ty r b since c0 seen es c hrr hbb hold hsc with ⟨e0, hrun⟩ | ⟨e, he, w1, hal, hrun⟩
    · have hx : (execOp a.eval ⟨some d, .next it false, ty, ps, af, none⟩).run P v.w = .ok (.value (.tuple #[.bool false])) v.w := by simp [execOp, h1.ev hit, hrun]
      rw [hx]
      exact h0 e0 _ v (h1.put hN) h2 h3 h4
    · have hx : (execOp a.eval ⟨some d, .next it false, ty, ps, af, none⟩).run P v.w = .ok (.value (.tuple #[.bool true, e.key, e.val])) (ChangeMaps.setBlock w1 r (.mapIter (some b) since (seen.push e.born) c)) := by simp [execOp, h1.ev hit, hrun]
      rw [hx]
      have hr1 : w1.heap[r]? = some (.mapIter (some b) since seen c0) := by rcases hal with rfl | rfl <;> exact hrr
      have hlt : r < w1.heap.size := (Array.getElem?_eq_some_iff.1 hr1).1
      have hw : w1.heap = v.w.heap := by rcases hal with rfl | rfl <;> rfl
      have hdr : v.w.drawn ≤ w1.drawn := by
        rcases hal with rfl | rfl
        · exact Nat.le_refl _
        · exact Nat.le_succ _
      obtain ⟨g1, g2⟩ := fr_ (w' := ChangeMaps.setBlock w1 r (.mapIter (some b) since (seen.push e.born) c)) h2 hr (by rcases hal with rfl | rfl <;> rfl) (by rcases hal with rfl | rfl <;> rfl) (by rcases hal with rfl | rfl <;> rfl) hdr (by simp [ChangeMaps.setBlock, hw])
        (by simp only [ChangeMaps.setBlock]; rw [Array.getElem?_setIfInBounds_self_of_lt hlt]) (fun k hk => by simp only [ChangeMaps.setBlock]; rw [Array.getElem?_setIfInBounds_ne (Ne.symm hk), hw])
      exact hk e he _ ⟨v.im, _, v.sl⟩ (h1.put hN) g1 (h3.trans g2) (bz_ (g2.le h2) h4)
theorem nR_ {it : Operand} {b r c since : Nat} {es : Array MapEntry} {seen : Array Nat} {e : MapEntry} (n m : Nat) (hit : Fr.ev fr it = some (.pointer (some ⟨r, 0, none⟩))) (hr : H[n]? = some (r, .mapIter (some b) since (seen.push e.born) c)) (hb : H[m]? = some (b, .map es c)) (he : e ∈ es.toList) (hB : Born es c) :
    Yld P N fr H Γ (.entry it) ty (.tuple #[e.key, e.val]) :=
  fun a v h1 h2 _ _ _ _ => by
    have := run_entry_at (P := P) v.w r b since seen es c e (h2.own _ (List.mem_of_getElem? hr)).1 (h2.own _ (List.mem_of_getElem? hb)).1 he hB.nd
    simp [execOp, h1.ev hit, this]
structure ItS (kv : K → Value) (es : Array MapEntry) (seen : Array Nat) (done : List K) : Prop where
  nd : done.Nodup
  mem : ∀ e ∈ es.toList, seen.contains e.born = true ↔ ∃ k ∈ done, e.key = kv k
  sub : ∀ k ∈ done, ∃ e ∈ es.toList, e.key = kv k
theorem ItS.nil {es : Array MapEntry} : ItS kv es #[] [] := ⟨List.nodup_nil, fun e _ => by simp, fun k hk => by simp at hk⟩
theorem SetE.entry {es : Array MapEntry} {q : List K} (hE : SetE kv es q) (hi : ∀ x y, kv x = kv y → x = y) {x e : MapEntry} (hx : x ∈ es.toList) (he : e ∈ es.toList) (h : x.key = e.key) : x = e := by
  obtain ⟨i, hi1, hi2⟩ := List.getElem_of_mem hx
  obtain ⟨j, hj1, hj2⟩ := List.getElem_of_mem he
  have hl := congrArg List.length hE.keys
  simp only [List.length_map] at hl
  have key : ∀ (k : Nat) (hk : k < es.toList.length), es.toList[k].key = kv (q[k]'(by omega)) := fun k hk => by
    have := congrArg (fun l => l[k]?) hE.keys
    simp only [List.getElem?_map] at this
    rw [List.getElem?_eq_getElem hk, List.getElem?_eq_getElem (by omega)] at this
    simpa using this
  have e1 := key i hi1
  have e2 := key j hj1
  rw [hi2] at e1
  rw [hj2] at e2
  have e3 := hi _ _ (e1.symm.trans (h.trans e2))
  have hij : i = j := by
    rcases Nat.lt_trichotomy i j with h1 | h1 | h1
    · exact absurd e3 (List.pairwise_iff_getElem.1 hE.nd i j (by omega) (by omega) h1)
    · exact h1
    · exact absurd e3.symm (List.pairwise_iff_getElem.1 hE.nd j i (by omega) (by omega) h1)
  subst hij
  rw [← hi2, ← hj2]
theorem SetE.ofKey {es : Array MapEntry} {q : List K} (hE : SetE kv es q) {e : MapEntry} (he : e ∈ es.toList) : ∃ k ∈ q, e.key = kv k := by
  have : e.key ∈ es.toList.map (·.key) := List.mem_map_of_mem he
  rw [hE.keys] at this
  obtain ⟨k, hk, h⟩ := List.mem_map.1 this
  exact ⟨k, hk, h.symm⟩
theorem ItS.step {es : Array MapEntry} {q : List K} {c : Nat} {seen : Array Nat} {done : List K} {e : MapEntry} (hi : ∀ x y, kv x = kv y → x = y) (hE : SetE kv es q) (hB : Born es c) (h : ItS kv es seen done) (he : e ∈ (leftOf es seen).toList) :
    ∃ k, k ∈ q ∧ k ∉ done ∧ e.key = kv k ∧ e ∈ es.toList ∧ ItS kv es (seen.push e.born) (done ++ [k]) := by
  unfold leftOf at he
  rw [Array.toList_filter, List.mem_filter] at he
  obtain ⟨h1, h2⟩ := he
  obtain ⟨k, hk, hkv⟩ := hE.ofKey h1
  have hnd : k ∉ done := fun hm => by
    have := (h.mem e h1).2 ⟨k, hm, hkv⟩
    rw [this] at h2
    simp at h2
  refine ⟨k, hk, hnd, hkv, h1, ⟨?_, fun x hx => ?_, fun y hy => ?_⟩⟩
  · rw [List.nodup_append]; exact ⟨h.nd, by simp, fun a ha b hb e => by simp at hb; subst hb; subst e; exact hnd ha⟩
  · rw [Array.contains_push, Bool.or_eq_true, h.mem x hx, beq_iff_eq]
    constructor
    · rintro (⟨y, hy, hyv⟩ | h3)
      · exact ⟨y, by simp [hy], hyv⟩
      · have : x = e := by
          have hn := hB.nd
          obtain ⟨i, hi1, hi2⟩ := List.getElem_of_mem hx
          obtain ⟨j, hj1, hj2⟩ := List.getElem_of_mem h1
          have hij : i = j := by
            rcases Nat.lt_trichotomy i j with g | g | g
            · exact ((List.pairwise_iff_getElem.1 hn i j (by simpa using hi1) (by simpa using hj1) g) (by simp only [List.getElem_map, hi2, hj2, h3])).elim
            · exact g
            · exact ((List.pairwise_iff_getElem.1 hn j i (by simpa using hj1) (by simpa using hi1) g) (by simp only [List.getElem_map, hi2, hj2, h3])).elim
          subst hij
          rw [← hi2, ← hj2]
        exact ⟨k, by simp, this ▸ hkv⟩
    · rintro ⟨y, hy, hyv⟩
      rcases List.mem_append.1 hy with hy | hy
      · exact .inl ⟨y, hy, hyv⟩
      · rw [List.mem_singleton] at hy
        subst hy
        exact .inr (congrArg MapEntry.born (hE.entry hi hx h1 (hyv.trans hkv.symm)))
  · rcases List.mem_append.1 hy with hy | hy
    · exact h.sub y hy
    · rw [List.mem_singleton] at hy
      subst hy
      exact ⟨e, h1, hkv⟩
theorem ItS.end {es : Array MapEntry} {q : List K} {seen : Array Nat} {done : List K} (hi : ∀ x y, kv x = kv y → x = y) (hE : SetE kv es q) (h : ItS kv es seen done) (h0 : (leftOf es seen).size = 0) : done.Perm q := by
  refine (List.perm_ext_iff_of_nodup h.nd hE.nd).2 fun k => ⟨fun hk => ?_, fun hk => ?_⟩
  · obtain ⟨e, he, hkv⟩ := h.sub k hk
    obtain ⟨k', hk', hkv'⟩ := hE.ofKey he
    exact hi _ _ (hkv.symm.trans hkv') ▸ hk'
  · have : kv k ∈ es.toList.map (·.key) := by rw [hE.keys]; exact List.mem_map_of_mem hk
    obtain ⟨e, he, hkv⟩ := List.mem_map.1 this
    have hs : seen.contains e.born = true := by
      cases hc : seen.contains e.born
      · exfalso
        have : e ∈ (leftOf es seen).toList := by unfold leftOf; rw [Array.toList_filter, List.mem_filter]; exact ⟨he, by simp only [hc]; rfl⟩
        have h1 := List.length_pos_of_mem this
        simp only [Array.length_toList] at h1
        omega
      · rfl
    obtain ⟨k', hk', hkv'⟩ := (h.mem e he).1 hs
    exact hi _ _ (hkv.symm.trans hkv') ▸ hk'
end
section
variable {P : Program} {N : Nat} {v0 : Vw} {H0 : Hp} {R : Exit → Act → World → Prop} {K : List Kt} {fr : Fr} {H F : Hp} {Γ : List Fct}
def qk_ {σ : Type} (v0 : Vw) (H0 : Hp) (Hj : σ → Hp) (ok : σ → Prop) (HL : Hp) : Exit → Act → World → Prop
  | .normal, _, w => ∃ s' v, ok s' ∧ v.w = w ∧ v.sat (Hj s' ++ HL) ∧ v0.to H0 v (Hj s' ++ HL)
  | _, _, _ => False
theorem ll_ {σ ι : Type} {l D : Nat} {rec : Loop} {pm : Nat} {x : Value} {Hj : σ → Hp} {s : σ} {ok : σ → Prop} (frA : ι → Fr) (HA : ι → Hp)
  (hp : rec.params = #[pm]) (hst : rec.state = .ready) (hpe : rec.pending = none) (ht : Fr.sat N fr ⟨rec.tmps, []⟩) (hpm : Nat.blt pm N = true)
  (hassign : ∀ n v0 H0 HL, jS_ (Fence.wide.inRound l) n P (Mid N v0 H0 frA (fun i => HA i ++ HL) (fun _ => Γ)) N [] v0 H0 rec.assign [] ((pm, x) :: fr) (Hj s ++ HL) Γ)
  (hbody : ∀ n v0 H0 HL i, jS_ (Fence.wide.inRound l) n P (qk_ v0 H0 Hj ok HL) N [] v0 H0 rec.body [] (frA i) (HA i ++ HL) Γ) :
  qj_ P l x (Hj s ++ HLp l D rec) Γ (fun _ : {s' : σ // ok s'} => .bool true) (fun s' => Hj s'.1 ++ HLp l D rec) (fun _ => []) := by
 intro v hs hΓ
 have hpl : ∀ (X : Hp) r, (X ++ HLp l D r).Perm ((l, .loop r) :: (X ++ [(D, .deferred (some []))])) := fun X r => by
  unfold HLp
  exact List.perm_middle
 have hl : v.w.heap[l]? = some (.loop rec) := ((hs.perm (hpl _ _)).own _ List.mem_cons_self).1
 refine ⟨rec.fn, _, rec.assign, rec.body, run_yield hl (by simp [hp]), fun n => roundIn_of_wpIn trivial ?_⟩
 have htm : (rec.params.zip #[x]).foldl (fun tmps (t, a) => tmps.setIfInBounds t a) rec.tmps = rec.tmps.setIfInBounds pm x := by simp [hp]
 rw [htm]
 have hsat : Fr.sat N ((pm, x) :: fr) ⟨rec.tmps.setIfInBounds pm x, []⟩ := ht.put hpm
 refine wpIn_mono (gE_.1 (hassign n v (Hj s ++ HLp l D rec) (HLp l D rec)) ⟨rec.tmps.setIfInBounds pm x, []⟩ v hsat hs (Vw.to.refl _ _) hΓ) ?_
 rintro e a1 w1 ⟨rfl, i, v1, rfl, k1, k2, k3, k4⟩
 have k2' := k2.perm (hpl _ _)
 have hl1 := (k2'.own _ List.mem_cons_self).1
 obtain ⟨m1, m2⟩ := iL_ (o' := .loop { rec with state := .busy }) k2'
 refine ⟨_, run_beginRound hl1 hst, ?_⟩
 have m3 := m1.perm (hpl (HA i) { rec with state := .busy }).symm
 have m4 : v.to (Hj s ++ HLp l D rec) ⟨v1.im, v1.w.putObj l (.loop { rec with state := .busy }), v1.sl⟩ (HA i ++ HLp l D { rec with state := .busy }) :=
  (k3.trans ((m2.permL (hpl _ _).symm).subR fun b hb => ((hpl (HA i) { rec with state := .busy }).map Prod.fst).mem_iff.1 hb))
 have k4' := bz_ (m2.le k2') k4
 refine wpIn_mono (gE_.1 (hbody n v (Hj s ++ HLp l D rec) (HLp l D { rec with state := .busy }) i) a1 ⟨v1.im, _, v1.sl⟩ k1 m3 m4 k4') ?_
 intro e2 a2 w2 hq
 cases e2 with
 | normal =>
  obtain ⟨s', v2, hok, rfl, q1, q2⟩ := hq
  have q1' := q1.perm (hpl _ _)
  have hl2 := (q1'.own _ List.mem_cons_self).1
  obtain ⟨z1, z2⟩ := iL_ (o' := .loop rec) q1'
  have er : ({ rec with state := .ready, pending := none } : Loop) = rec := by cases rec; simp_all
  refine ⟨_, _, run_endRound none hl2, ⟨s', hok⟩, ⟨v2.im, v2.w.putObj l (.loop rec), v2.sl⟩, rfl, ?_, z1.perm (hpl _ _).symm, trivial, q2.trans ((z2.permL (hpl _ _).symm).subR fun b hb => ((hpl (Hj s') rec).map Prod.fst).mem_iff.1 hb)⟩
  simp [er]
 | ret => exact hq.elim
 | exit id => exact hq.elim
 | goto t => exact hq.elim
 | panic c => exact hq.elim
 | outgrown => exact hq.elim
theorem mC_ {σ : Type} {Hj : σ → Hp} {HL G : Hp} {ok : σ → Prop} (s' : σ) (hr : ok s') (hH : H.Perm (Hj s' ++ HL ++ G)) : OkD N [] v0 H0 (qk_ v0 H0 Hj ok HL .normal) fr H Γ :=
  pz_ (Γ' := []) hH (fun _ _ _ => trivial) fun a v h1 h2 h3 _ => ⟨s', v, hr, rfl, h2, h3⟩
theorem mA_ {σ α : Type} {g : Operand} {pm : Nat} {assign body : Code} {gf : FuncId} {caps : List Value} {Hj : σ → Hp} {Hc : Hp} {Γi : List Fct} {xv : α → Value} {good : σ → α → Prop} {nx : α → σ → σ → Prop} {Rc : σ → Prop}
    (s0 : σ) (hg : Fr.ev fr g = some (.func (.func gf) #[] caps.toArray)) (hH : H.Perm (Hc ++ Hj s0)) (hΓi : ∀ v, v.sat H → aT_ Γ v → aT_ Γi v)
    (hround : ∀ l D (rec : Loop), rec.params = #[pm] → rec.state = .ready → rec.pending = none → Fr.sat N fr ⟨rec.tmps, []⟩ → rec.assign = assign → rec.body = body → ∀ s x, good s x →
      qj_ P l (xv x) (Hj s ++ HLp l D rec) [] (fun _ : {s' : σ // nx x s s'} => .bool true) (fun s' => Hj s'.1 ++ HLp l D rec) (fun _ => []))
    (hit : ∀ l (Gj : σ → Hp), (∀ s x, good s x → qj_ P l (xv x) (Gj s) [] (fun _ : {s' : σ // nx x s s'} => .bool true) (fun s' => Gj s'.1) (fun _ => [])) →
      Tri P gf (.func (.yield l) #[] #[] :: caps).toArray (Hc ++ Gj s0) Γi (fun _ : {s' : σ // Rc s'} => .tuple #[]) (fun s' => Hc ++ Gj s'.1) (fun _ => []))
    (hnext : ∀ s', Rc s' → ∀ D l r, rg_ Fence.wide 0 P R N (mark D) v0 H0 K fr (Hc ++ Hj s' ++ HLp l D r) Γ) :
    Run P R N v0 H0 (.rangeFunc g #[pm] assign body) K fr H Γ := by
  intro a v h1 h2 h3 h4
  refine wpIn_wide (n := 0) |>.1 (wpIn_mono (Q := ev_ Fence.wide 0 P R K) (wpIn_rangeFunc fun fn _ => ?_) fun e a w hq => bU_ K e a w hq)
  obtain ⟨a1, a2⟩ := hJ_ (w' := v.w.alloc (.deferred (some []))) (o := .deferred (some [])) h2 rfl rfl rfl rfl (Nat.le_refl _)
  obtain ⟨rec, hrec⟩ : ∃ rec : Loop, rec = { state := .ready, pending := none, fn, tmps := a.tmps, params := #[pm], assign, body, defers := v.w.heap.size } := ⟨_, rfl⟩
  obtain ⟨b1, b2⟩ := hJ_ (w' := (v.w.alloc (.deferred (some []))).alloc (.loop rec)) (o := .loop rec) a1 rfl rfl rfl rfl (Nat.le_refl _)
  have hsz : (v.w.alloc (Obj.deferred (some []))).heap.size = v.w.heap.size + 1 := by simp
  have b1' : (⟨v.im, (v.w.alloc (.deferred (some []))).alloc (.loop rec), v.sl⟩ : Vw).sat ((v.w.heap.size + 1, .loop rec) :: (v.w.heap.size, .deferred (some [])) :: H) := hsz ▸ b1
  have b2' : v.to H ⟨v.im, (v.w.alloc (.deferred (some []))).alloc (.loop rec), v.sl⟩ ((v.w.heap.size + 1, .loop rec) :: (v.w.heap.size, .deferred (some [])) :: H) := a2.trans (hsz ▸ b2)
  have hperm : ((v.w.heap.size + 1, Obj.loop rec) :: (v.w.heap.size, .deferred (some [])) :: H).Perm (Hc ++ (Hj s0 ++ HLp (v.w.heap.size + 1) v.w.heap.size rec)) := by
    rw [← List.append_assoc]
    exact (List.perm_append_comm (l₁ := HLp (v.w.heap.size + 1) v.w.heap.size rec) (l₂ := H)).trans (hH.append_right _)
  have hT := hit (v.w.heap.size + 1) (fun s => Hj s ++ HLp (v.w.heap.size + 1) v.w.heap.size rec)
    (hround _ _ rec (by rw [hrec]) (by rw [hrec]) (by rw [hrec]) (by rw [hrec]; exact ⟨h1.size, rfl, h1.val⟩) (by rw [hrec]) (by rw [hrec]))
  have hΓ2 := bz_ (b2'.le h2) (hΓi v h2 h4)
  have hΓ3 := bz_ (b2'.le h2) h4
  have he := h1.ev hg
  refine ⟨v.w.heap.size + 1, mark v.w.heap.size, (v.w.alloc (.deferred (some []))).alloc (.loop rec), ⟨.fn (.func gf) caps.toArray, #[.func (.yield (v.w.heap.size + 1)) #[] #[]]⟩, (v.w.alloc (.deferred (some []))).alloc (.loop rec), gf, (.func (.yield (v.w.heap.size + 1)) #[] #[] :: caps).toArray, _, ?_, ?_, fun _ _ => trivial, ?_, fun h => (by cases h), callsIn_wide.2 ((hT.run ⟨v.im, _, v.sl⟩ (b1'.perm hperm) hΓ2).mono ?_)⟩
  · rw [hrec]; exact run_enterLoop_outer _ _ _ _ _
  · simp only [resolve, rangeCall, List.map_toArray, List.map_cons, List.map_nil, he, Deferred.ofValue]
    rfl
  · have := hT.callable (.func (.yield (v.w.heap.size + 1)) #[] #[] :: caps).toArray ((v.w.alloc (.deferred (some []))).alloc (.loop rec))
    simpa [invoke] using this
  · rintro e w' ⟨⟨s', hRc⟩, v', rfl, rfl, g1, g2, g3⟩
    have g3' := b2'.trans (g3.permL hperm.symm)
    have hΓ4 := bz_ (g3'.le h2) h4
    have hsd : ∀ D', SatD N D' fr { a with defers := D' ++ a.defers } := fun D' => ⟨⟨h1.size, rfl, h1.val⟩, by show D' ++ a.defers = D'; rw [h1.defers]; simp⟩
    have hpl : ∀ (X Y : Hp) r, (Y ++ (X ++ HLp (v.w.heap.size + 1) v.w.heap.size r)).Perm ((v.w.heap.size + 1, .loop r) :: (Y ++ X ++ [(v.w.heap.size, .deferred (some []))])) := fun X Y r => by
      unfold HLp
      rw [← List.append_assoc]
      exact List.perm_middle
    have q := g1.perm (hpl (Hj s') Hc rec)
    have hl := (q.own _ List.mem_cons_self).1
    obtain ⟨z1, z2⟩ := iL_ (o' := .loop { rec with state := .exhausted }) q
    have zp : ((v.w.heap.size + 1, Obj.loop { rec with state := .exhausted }) :: (Hc ++ Hj s' ++ [(v.w.heap.size, .deferred (some []))])).Perm (Hc ++ Hj s' ++ HLp (v.w.heap.size + 1) v.w.heap.size { rec with state := .exhausted }) := by
      have := (hpl (Hj s') Hc { rec with state := .exhausted }).symm
      rw [← List.append_assoc] at this
      exact this
    refine ⟨rec.pending, _, run_endLoop hl (by rw [hrec]; simp), ?_⟩
    have hpn : rec.pending = none := by rw [hrec]
    split
    case h_2 => rename_i c hc; rw [hpn] at hc; cases hc
    exact hnext s' hRc _ _ _ _ ⟨v'.im, _, v'.sl⟩ (hsd _) (z1.perm zp) (h3.trans (g3'.trans ((z2.permL (hpl _ _ _).symm).subR fun b hb => (zp.map Prod.fst).mem_iff.2 hb))) (bz_ (z2.le q) hΓ4)
end
section
variable {Fc : Fence} {n : Nat} {P : Program} {N : Nat} {D : List Deferred} {v0 : Vw} {H0 : Hp} {R : Exit → Act → World → Prop} {K : List Kt} {fr : Fr} {H : Hp} {Γ : List Fct}
variable {ops : Array Oper} {l : List Oper} {d : Nat} {ty : TypeId} {ps : String} {af : Array Edge}
theorem or_ {t e : TypeId} {len sz : Nat} {parts : List (Nat × Operand)} {vs : List (Nat × Value)} {zv : Value} {cs : List Value} (hF : Opn Fc) (hu : ∀ w, (underlying t).run P w = .ok (.slice e) w) (hs : ∀ w, (sizeOf e).run P w = .ok sz w) (hz : ∀ w, (zeroValue e).run P w = .ok zv w)
    (hzl : zv.cells.toList.length = sz) (hp : Nat.blt 0 (len * sz) = true) (hle : Nat.ble (len * sz) 16777216 = true) (hx : Fr.evp fr parts = some vs) (hf : iE_ (fun i => some (i * sz, sz)) (kB_ zv.cells.toList len) vs = some cs) (hN : Nat.blt d N = true)
    (hk : ∀ b, gS_ Fc n P R N D v0 H0 ops l K ((d, .slice (some ⟨b, 0, none⟩) len len) :: fr) ((b, .cells cs.toArray e (0, 0)) :: H) Γ) : gS_ Fc n P R N D v0 H0 ops (⟨some d, .buildSlice t len parts.toArray, ty, ps, af, none⟩ :: l) K fr H Γ :=
  eA_ rfl fun a v h1 h2 h3 h4 => by
    refine ⟨fun f _ => hF.fn f, ?_⟩
    rw [semAt_eq rfl]
    have he : (execOp a.eval ⟨some d, .buildSlice t len parts.toArray, ty, ps, af, none⟩).run P v.w = .ok (.value (.slice (some ⟨v.w.heap.size, 0, none⟩) len len)) (v.w.alloc (.cells cs.toArray e (0, 0))) := by
      have hx' := h1.sat.evp hx
      have hf' := gK_ _ _ _ _ hf
      have hpos : 0 < len * sz := by simpa [Nat.blt_eq] using hp
      have hszp : 0 < sz := Nat.pos_of_mul_pos_left hpos
      have hle' : len * sz ≤ 16777216 := Nat.le_of_ble_eq_true hle
      have hr := ji_ zv.cells.toList (by omega) len
      rw [hzl] at hr
      simp only [Array.toArray_toList] at hr
      rw [← hr] at hf'
      have hx2 : (parts.map fun (i, x) => (i, a.eval x)) = vs := hx'
      simp only [execOp, Instr.buildSlice, Sem.run_bind, hu, Result.andThen_ok, hs, List.map_toArray, hx2]
      rw [if_neg (by omega), if_neg (by omega)]
      simp only [Sem.run_bind, Sem.run_pure, hz, Result.andThen_ok, hf']
      rfl
    rw [he]
    obtain ⟨g1, g2⟩ := hJ_ (w' := v.w.alloc (.cells cs.toArray e (0, 0))) (o := .cells cs.toArray e (0, 0)) h2 rfl rfl rfl rfl (Nat.le_refl _)
    exact hk v.w.heap.size _ ⟨v.im, _, v.sl⟩ (h1.put hN) g1 (h3.trans g2) (bz_ (g2.le h2) h4)
theorem pA_ {k : Act → World → Prop} {H' : Hp} (hH : H.Perm H') (h : OkD N D v0 H0 k fr H' Γ) : OkD N D v0 H0 k fr H Γ :=
  fun a v h1 h2 h3 h4 => h a v h1 (h2.perm hH) (h3.subR fun b hb => (hH.map Prod.fst).mem_iff.2 hb) h4
theorem jN_ {t e : TypeId} {x y : Operand} {b off sz m : Nat} {sv : Value} {xs : List Value} {Hr : Hp} (hF : Opn Fc) (i : Nat) {cur : Array Value} {T : TypeId} (hrow : aQ_ e sz sv m xs Hr) (hs : ∀ w, (sizeOf t).run P w = .ok 1 w)
    (hx : Fr.ev fr x = some (.pointer (some ⟨b, off, none⟩))) (hy : Fr.ev fr y = some sv) (hi : H[i]? = some (b, .cells cur T (0, 0))) (hf : Nat.ble (off + 1) cur.size = true)
    (hk : gS_ Fc n P R N D v0 H0 ops l K fr (H.set i (b, .cells (cur.toList.take off ++ [sv] ++ cur.toList.drop (off + 1)).toArray T (0, 0))) Γ) : gS_ Fc n P R N D v0 H0 ops (⟨none, .store t x y, ty, ps, af, none⟩ :: l) K fr H Γ :=
  jp_ hF i hs hx hy hi (by rw [(eG_ hrow).1]; rfl) hf (by rw [(eG_ hrow).1]; simp [(eG_ hrow).2]) (by rw [(eG_ hrow).1]; exact hk)
theorem lQ_ {x y : Operand} {t e : TypeId} {sz by' m k c : Nat} {sv : Value} {xs news : List Value} {Hr F : Hp} {ad : Addr} (hF : Opn Fc) (he : Elt P t e sz by') (hrow : aQ_ e sz sv m xs Hr)
    (hx : Fr.ev fr x = some sv) (hy : Fr.ev fr y = some (.slice (some ad) k c)) (hH : H.Perm (Hr ++ F)) (hl : news.length = k * sz) (hnews : ∀ v, v.sat H → aT_ Γ v → ∀ j u, news[j]? = some u → v.w.cell? (ad.add j) = some u) (h1c : ∀ u ∈ news, u.oneCell' = true)
    (h63 : m + k ≤ maxLen) (hb : (m + k) * by' ≤ 140737488355328) (hN : Nat.blt d N = true)
    (hk : ∀ sv' Hr', aQ_ e sz sv' (m + k) (xs ++ news) Hr' → gS_ Fc n P R N D v0 H0 ops l K ((d, sv') :: fr) (Hr' ++ F) Γ) :
    gS_ Fc n P R N D v0 H0 ops (⟨some d, .call ⟨.builtin .append, #[x, y], #[t, t]⟩, ty, ps, af, none⟩ :: l) K fr H Γ :=
  eA_ rfl fun a v h1 h2 h3 h4 => by
    refine ⟨fun f _ => hF.fn f, ?_⟩
    rw [semAt_eq rfl]
    obtain ⟨i, z, hi, hz, es, eb, ez⟩ := he.info
    have g := h2.perm hH
    have hn := hnews v h2 h4
    have ho := hrow.owns g
    obtain ⟨v', w', hr, q1, q2, _⟩ := run_append_own (P := P) v.w 0 t ty e i z sz by' he.und hi hz es eb ez he.pos sv m xs ho ad k c news hl hn h1c h63 hb (Nat.zero_le _)
    obtain ⟨a1, a2⟩ := ia_ v.w he.und hi hz es ho hl hn h1c h63 (by rw [eb]; exact hb) hr
    obtain ⟨Hr', k1, k2, k3⟩ := ir_ hrow g q1 q2 a1 a2
    have e1 : a.eval x = sv := h1.sat.ev hx
    have e2 : a.eval y = .slice (some ad) k c := h1.sat.ev hy
    have hxx : (execOp a.eval ⟨some d, .call ⟨.builtin .append, #[x, y], #[t, t]⟩, ty, ps, af, none⟩).run P v.w = .ok (.value v') w' := by
      simp only [execOp, resolve, invoke, builtin, Sem.run_bind, Sem.run_pure, Result.andThen_ok, List.map_toArray, List.map_cons, List.map_nil, e1, e2, hr]
    rw [hxx]
    exact hk v' Hr' k1 _ ⟨v.im, w', v.sl⟩ (h1.put hN) k2 (h3.trans (k3.permL hH.symm)) (bz_ ((k3.permL hH.symm).le h2) h4)
end
end Go.Sx
namespace Go.Vs
open Go Go.Sx
def Ky.cells (k : Ky) : List Value := [.int .i64 k.kind, str k.role, str k.atom]
theorem Ky.cells_len (k : Ky) : k.cells.length = 3 := rfl
def Ky.val (k : Ky) : Value := .agg k.cells.toArray
def lv_ (s : hA_) : List Value := [str s.1, str s.2]
def gn_ (s : hA_) : Value := .agg (lv_ s).toArray
def Ky.eqb (p q : Ky) : Bool := (p.kind == q.kind) && ((p.role == q.role) && ((p.atom == q.atom) && true))
theorem Ky.eqb_eq (p q : Ky) : p.eqb q = decide (p = q) := by
  rw [Bool.eq_iff_iff]; cases p; cases q; simp [Ky.eqb]
def rk_ (p q : hA_) : Bool := (p.1 == q.1) && ((p.2 == q.2) && true)
theorem oZ_ (p q : hA_) : rk_ p q = decide (p = q) := by
  rw [Bool.eq_iff_iff]; cases p; cases q; simp [rk_]
theorem Fc.cells_one (p : Fc) : p.cells.all Value.oneCell' = true := rfl
end Go.Vs
namespace Go.Sx
open Go Go.Vs
structure Emt (P : Program) (tF : TypeId) where
  stp : Fc → List Fc → List Fc
  kof : List Fc → List Fc
  St : List Fc → List Fc → Hp → Prop
  fn : FuncId
  caps : List Value
  ef : Fct
  kb : Nat
  fb : Nat
  grows : Grows stp kof
  emit : ∀ f nw fm H, St nw fm H → Tri P fn (f.val :: caps).toArray H [ef] (fun _ : {H' : Hp // St (stp f nw) fm H'} => .tuple #[]) (fun y => y.1) (fun _ => [])
  known : ∀ {nw fm H}, St nw fm H → ∃ es c, (kb, Obj.map es c) ∈ H ∧ SetE Fc.val es (kof nw)
  firm : ∀ {nw fm H}, St nw fm H → ∃ es c q, (fb, Obj.map es c) ∈ H ∧ SetE Fc.val es q ∧ ∀ f, f ∈ q ↔ f ∈ fm
  setf : ∀ {nw fm H} (f : Fc), St nw fm H → ∃ es c q Hr, H.Perm ((fb, Obj.map es c) :: Hr) ∧ SetE Fc.val es q ∧ (∀ f, f ∈ q ↔ f ∈ fm) ∧ ∀ es' c', SetE Fc.val es' (if f ∈ q then q else q ++ [f]) → ∃ H', St nw (f :: fm) H' ∧ H'.Perm ((fb, Obj.map es' c') :: Hr)
section
variable {P : Program} {N : Nat} {v0 : Vw} {H0 : Hp} {R : Exit → Act → World → Prop} {K : List Kt} {fr : Fr} {H : Hp} {Γ : List Fct}
variable {ops : Array Oper} {l : List Oper} {d : Nat} {ty : TypeId} {ps : String} {af : Array Edge} {tF : TypeId} {E : Emt P tF} {nw fm : List Fc} {Hs F : Hp}
theorem jm_ {b : Nat} {o : Obj} {v : Vw} (hp : H.Perm (Hs ++ F)) (hm : (b, o) ∈ Hs) (h : v.sat H) : v.w.heap[b]? = some o := (h.own _ (hp.mem_iff.2 (List.mem_append_left _ hm))).1
theorem gV_ {t et : TypeId} {x y : Operand} {f : Fc} (hS : E.St nw fm Hs) (hK : KeyT P tF Fc.val) (hu : ∀ w, (underlying t).run P w = .ok (.map tF et) w) (hz : ∀ w, (zeroValue et).run P w = .ok (.bool false) w) (hx : Fr.ev fr x = some (.map (some E.kb))) (hy : Fr.ev fr y = some f.val) (hp : H.Perm (Hs ++ F)) :
    Yld P N fr H Γ (.lookup t x y false) ty (.bool (decide (f ∈ E.kof nw))) := by
  obtain ⟨es, c, g1, g2⟩ := E.known hS
  exact cV_ hK hu hz hx hy g2 fun v h _ => jm_ hp g1 h
theorem lm_ {t et : TypeId} {x y : Operand} {f : Fc} (hS : E.St nw fm Hs) (hK : KeyT P tF Fc.val) (hu : ∀ w, (underlying t).run P w = .ok (.map tF et) w) (hz : ∀ w, (zeroValue et).run P w = .ok (.bool false) w) (hx : Fr.ev fr x = some (.map (some E.fb))) (hy : Fr.ev fr y = some f.val) (hp : H.Perm (Hs ++ F)) :
    Yld P N fr H Γ (.lookup t x y false) ty (.bool (decide (f ∈ fm))) := by
  obtain ⟨es, c, q, g1, g2, g3⟩ := E.firm hS
  have := cV_ (P := P) (N := N) (H := H) (Γ := Γ) (ty := ty) hK hu hz hx hy g2 fun v h _ => jm_ hp g1 h
  have e : decide (f ∈ q) = decide (f ∈ fm) := by rw [decide_eq_decide]; exact g3 f
  rw [← e]; exact this
theorem px_ {o : Op} {t et : TypeId} {x y z : Operand} {f : Fc} (hS : E.St nw fm Hs) (hK : KeyT P tF Fc.val) (ho : o = .insert t x y z ∨ o = .mapUpdate t x y z) (hu : ∀ w, (underlying t).run P w = .ok (.map tF et) w)
    (hx : Fr.ev fr x = some (.map (some E.fb))) (hy : Fr.ev fr y = some f.val) (hz : Fr.ev fr z = some (.bool true)) (hp : H.Perm (Hs ++ F))
    (hk : ∀ Hs', E.St nw (f :: fm) Hs' → Ops P R N v0 H0 ops l K fr (Hs' ++ F) Γ) : Ops P R N v0 H0 ops (⟨none, o, ty, ps, af, none⟩ :: l) K fr H Γ := by
  obtain ⟨es, c, q, Hr, p1, p2, p3, p4⟩ := E.setf f hS
  refine al_ (H' := (E.fb, .map es c) :: (Hr ++ F)) (hp.trans (by have := p1.append_right F; simpa using this)) (fG_ 0 hK ho hu hx hy hz rfl p2 fun es' c' hs' => ?_)
  obtain ⟨H', q1, q2⟩ := p4 es' c' hs'
  simp only [List.set_cons_zero]
  exact al_ (by have := (q2.append_right F).symm; simpa using this) (hk H' q1)
end
structure EngB where
  g : Nat
  pb : Nat
  ab : Nat
  ub : Nat
  ob : Nat
  ib : Nat
  rb : Nat
  sb : Nat
  lad : Option Addr
  lcap : Nat
  lps : List Str
structure EngA where
  p : Ky → Option Addr × Nat
  a : Str → Option Addr × Nat
  u : Str → Option Addr × Nat
  o : hA_ → Option Addr × Nat
  i : hA_ → Option Addr × Nat
  r : hA_ → Option Addr × Nat
  s : hA_ → Option Addr × Nat
def EngB.cells (B : EngB) {P : Program} {tF : TypeId} (E : Emt P tF) : List Value :=
  [.map (some B.pb), .slice B.lad B.lps.length B.lcap, .map (some E.kb), .func (.func E.fn) #[] E.caps.toArray, .map (some B.ab), .map (some B.ub), .map (some B.ob), .map (some B.ib), .map (some B.rb), .map (some B.sb), .map (some E.fb)]
structure IxH where
  a : Hp
  u : Hp
  o : Hp
  i : Hp
  r : Hp
  s : Hp
def IxO (tS tF : TypeId) (B : EngB) (x : Ix) (y : IxH) : Prop :=
  dt_ str aH_ tS 1 x.above B.ab y.a ∧ dt_ str aH_ tS 1 x.under B.ub y.u ∧ dt_ gn_ aH_ tS 1 x.frm B.ob y.o ∧ dt_ gn_ aH_ tS 1 x.into B.ib y.i ∧ dt_ gn_ Fc.cells tF 6 x.ranges B.rb y.r ∧ dt_ gn_ Fc.cells tF 6 x.firms B.sb y.s
end Go.Sx
namespace Go.Proofs.YtpdbbglpbngeiaaGreatDoor
open Go Go.Sx Go.Proofs
attribute [local irreducible] Code.wp wpList wpAnyH
open Go.Vs
theorem eqKy (p q : Ky) (w : World) : (Op.equalIn 10000 171 (Ky.val p) (Ky.val q)).run Tryz.prog w = .ok (decide (p = q)) w := by
  have h := run_equalIn_struct (P := Tryz.prog) w 9999 171 (Ky.cells p).toArray (Ky.cells q).toArray (by simp only [Program.fieldsOf, Tryz.underlying171]) Tryz.stoodInHeld171
  refine h.trans ?_
  rw [← Ky.eqb_eq]
  simp only [Program.fieldsOf, Tryz.underlying171]
  exact co_ rfl L_ rfl rfl (eqI cq_ w) (co_ rfl p_ rfl rfl (eqS bu_ w) (co_ rfl p_ rfl rfl (eqS bu_ w) (iQ_ w)))
theorem eqSpot (p q : hA_) (w : World) : (Op.equalIn 10000 145 (gn_ p) (gn_ q)).run Tryz.prog w = .ok (decide (p = q)) w := by
  have h := run_equalIn_struct (P := Tryz.prog) w 9999 145 (lv_ p).toArray (lv_ q).toArray (by simp only [Program.fieldsOf, Tryz.underlying145]) Tryz.stoodInHeld145
  refine h.trans ?_
  rw [← oZ_]
  simp only [Program.fieldsOf, Tryz.underlying145]
  exact co_ rfl p_ rfl rfl (eqS bu_ w) (co_ rfl p_ rfl rfl (eqS bu_ w) (iQ_ w))
theorem okKy (p : Ky) : ic_ Tryz.prog 171 (Ky.val p) := fun e w => by
  have hi : ∀ (n : Int) (w : World), (Instr.checkKey e (9998 + 1) 3 (.int .i64 n)).run Tryz.prog w = .ok () w := fun n w => MapKept.run_checkKey (d := .int .i64) cq_ (by simp [MapKept.IsKey]) e 9998
  have hs : ∀ (n : Str) (w : World), (Instr.checkKey e (9998 + 1) 9 (str n)).run Tryz.prog w = .ok () w := fun n w => MapKept.run_checkKey (d := .string) bu_ (by simp [MapKept.IsKey, str]) e 9998
  refine ckF (n := 9999) Tryz.underlying171 fun f hf => ?_
  simp only [List.mem_cons, List.not_mem_nil, or_false] at hf
  rcases hf with rfl | rfl | rfl
  · exact ⟨rfl, L_, _, rfl, hi _⟩
  · exact ⟨rfl, p_, _, rfl, hs _⟩
  · exact ⟨rfl, p_, _, rfl, hs _⟩
theorem okSpot (p : hA_) : ic_ Tryz.prog 145 (gn_ p) := fun e w => by
  have hi : ∀ (n : Int) (w : World), (Instr.checkKey e (9998 + 1) 3 (.int .i64 n)).run Tryz.prog w = .ok () w := fun n w => MapKept.run_checkKey (d := .int .i64) cq_ (by simp [MapKept.IsKey]) e 9998
  have hs : ∀ (n : Str) (w : World), (Instr.checkKey e (9998 + 1) 9 (str n)).run Tryz.prog w = .ok () w := fun n w => MapKept.run_checkKey (d := .string) bu_ (by simp [MapKept.IsKey, str]) e 9998
  refine ckF (n := 9999) Tryz.underlying145 fun f hf => ?_
  simp only [List.mem_cons, List.not_mem_nil, or_false] at hf
  rcases hf with rfl | rfl
  · exact ⟨rfl, p_, _, rfl, hs _⟩
  · exact ⟨rfl, p_, _, rfl, hs _⟩
theorem okFc (p : Fc) : ic_ Tryz.prog 41 (Fc.val p) := fun e w => by
  have hi : ∀ (n : Int) (w : World), (Instr.checkKey e (9998 + 1) 3 (.int .i64 n)).run Tryz.prog w = .ok () w := fun n w => MapKept.run_checkKey (d := .int .i64) cq_ (by simp [MapKept.IsKey]) e 9998
  have hs : ∀ (n : Str) (w : World), (Instr.checkKey e (9998 + 1) 9 (str n)).run Tryz.prog w = .ok () w := fun n w => MapKept.run_checkKey (d := .string) bu_ (by simp [MapKept.IsKey, str]) e 9998
  refine ckF (n := 9999) jY_ fun f hf => ?_
  simp only [List.mem_cons, List.not_mem_nil, or_false] at hf
  rcases hf with rfl | rfl | rfl | rfl | rfl | rfl
  · exact ⟨rfl, L_, _, rfl, hi _⟩
  · exact ⟨rfl, p_, _, rfl, hs _⟩
  · exact ⟨rfl, p_, _, rfl, hs _⟩
  · exact ⟨rfl, p_, _, rfl, hs _⟩
  · exact ⟨rfl, L_, _, rfl, hi _⟩
  · exact ⟨rfl, L_, _, rfl, hi _⟩
theorem fM_ : KeyT Tryz.prog 171 Ky.val := fv_ (K := Ky) Tryz.underlying171 okKy (fun p q w => eqKy p q w) fun k => hK_ (l := Ky.cells k) fun v hv => by
  simp only [Ky.cells, List.mem_cons, List.not_mem_nil, or_false] at hv
  rcases hv with rfl | rfl | rfl
  · exact eH_ _ _
  · exact dz_ _ _
  · exact dz_ _ _
theorem cU_ : KeyT Tryz.prog 145 gn_ := fv_ (K := hA_) Tryz.underlying145 okSpot (fun p q w => eqSpot p q w) fun k => hK_ (l := lv_ k) fun v hv => by
  simp only [lv_, List.mem_cons, List.not_mem_nil, or_false] at hv
  rcases hv with rfl | rfl
  · exact dz_ _ _
  · exact dz_ _ _
theorem fN_ : KeyT Tryz.prog 41 Fc.val := fv_ (K := Fc) jY_ okFc (fun p q w => eqFc p q w) fun k => hK_ (l := Fc.cells k) fun v hv => by
  simp only [Fc.cells, List.mem_cons, List.not_mem_nil, or_false] at hv
  rcases hv with rfl | rfl | rfl | rfl | rfl | rfl
  · exact eH_ _ _
  · exact dz_ _ _
  · exact dz_ _ _
  · exact dz_ _ _
  · exact eH_ _ _
  · exact eH_ _ _
theorem pO_ : KeyT Tryz.prog 47 Pc.val := fv_ (K := Pc) jX_ keyPc (fun p q w => eqPc p q w) fun k => hK_ (l := Pc.cells k) fun v hv => by
  simp only [Pc.cells, List.mem_cons, List.not_mem_nil, or_false] at hv
  rcases hv with rfl | rfl | rfl | rfl | rfl | rfl | rfl | rfl | rfl | rfl
  · exact eH_ _ _
  · exact dz_ _ _
  · exact dz_ _ _
  · exact dz_ _ _
  · exact dz_ _ _
  · exact dz_ _ _
  · exact dz_ _ _
  · exact eH_ _ _
  · exact eH_ _ _
  · exact eH_ _ _
theorem fL_ : KeyT Tryz.prog 9 str := pN_ bu_
theorem cg_ : Elt Tryz.prog 26 41 6 72 := nH_ Tryz.underlying26 (z := .agg #[.int .i64 0, str [], str [], str [], .int .i64 0, .int .i64 0]) (by kernel_rfl) rfl (by decide)
theorem elt_pc : Elt Tryz.prog 22 47 10 128 := nH_ Tryz.underlying22 (z := .agg #[.int .i64 0, str [], str [], str [], str [], str [], str [], .int .i64 0, .int .i64 0, .int .i64 0]) (by kernel_rfl) rfl (by decide)
theorem cG_ : Elt Tryz.prog 25 9 1 16 := nH_ jZ_ (z := .string ⟨#[]⟩) (by kernel_rfl) rfl (by decide)
theorem ep_ : mt_ Tryz.prog 171 [(0, 1), (1, 1), (2, 1)] [.int .i64 0, str [], str []] := ⟨_, Tryz.zeroValue171, Tryz.runUnderlying171, fun w => by simp [I_, j_]⟩
theorem eW_ : mt_ Tryz.prog 145 [(0, 1), (1, 1)] [str [], str []] := ⟨_, cC_, Tryz.runUnderlying145, fun w => by simp [j_]⟩
theorem strt94 : mt_ Tryz.prog 94 [(0, 1), (1, 1), (2, 1), (3, 1), (4, 1), (5, 1), (6, 1), (7, 1), (8, 1), (9, 1), (10, 1)] [.map none, .slice none 0 0, .map none, .nilFunc, .map none, .map none, .map none, .map none, .map none, .map none, .map none] := ⟨_, Tryz.zeroValue94, K_, fun w => by simp [bR_, dv_, bB_, aU_, hC_, du_, rl_]⟩
theorem cm_ (s : Str) : (aH_ s).all Value.oneCell' = true := rfl
def gF (B : EngB) (E : Emt Tryz.prog 41) : Fct := cM_ B.g (.cells (B.cells E).toArray 94 (0, 0))
def pF (B : EngB) (pm : List (Ky × Pc)) (A : EngA) : Fct := mlF Tryz.prog 171 Ky.val Pc.cells B.pb pm A.p
def aF (B : EngB) (x : Ix) (A : EngA) : Fct := mlF Tryz.prog 9 str aH_ B.ab x.above A.a
def uF (B : EngB) (x : Ix) (A : EngA) : Fct := mlF Tryz.prog 9 str aH_ B.ub x.under A.u
def oF (B : EngB) (x : Ix) (A : EngA) : Fct := mlF Tryz.prog 145 gn_ aH_ B.ob x.frm A.o
def iF (B : EngB) (x : Ix) (A : EngA) : Fct := mlF Tryz.prog 145 gn_ aH_ B.ib x.into A.i
def rF (B : EngB) (x : Ix) (A : EngA) : Fct := mlF Tryz.prog 145 gn_ Fc.cells B.rb x.ranges A.r
def sF (B : EngB) (x : Ix) (A : EngA) : Fct := mlF Tryz.prog 145 gn_ Fc.cells B.sb x.firms A.s
end Go.Proofs.YtpdbbglpbngeiaaGreatDoor
namespace Go.Proofs.YtpdbbglpbngeiaaGreatDoor
open Go Go.Sx Go.Proofs
attribute [local irreducible] Code.wp wpList wpAnyH
open Go.Vs
theorem eu_ {α β : Type} {g : α → β} {l : List α} {i : Nat} {x : α} (h : l[i]? = some x) : List.map g (List.take (i + 1) l) = List.map g (List.take i l) ++ [g x] := by
  rw [List.take_add_one, h, Option.toList_some, List.map_append]; rfl
theorem eU_ (a b : Str) : Fn0 Tryz.prog 89 #[str a, str b] (Fc.val (ak_ a b)) := by
  refine T_ Tryz.func89 rfl rfl Tryz.ntmps89 rfl fun v0 => ?_
  refine h_ (c_ (ay_ ah_ rfl fun b1 => ?_))
  refine e_ (b_ rfl (h_ (c_ (a_ (f_ rfl) rfl (a_ (f_ rfl) rfl (a_ (aL_ ie_ rfl rfl) rfl (af_ 0 B_ rfl rfl rfl rfl rfl rfl (e_ (b_ rfl ?_)))))))))
  refine H_ ?_
  exact gb_ () (fun aa v h1 h2 => ey_ (us := Fc.cells (ak_ a b)) 0 Tryz.results89 V_ B_ rfl rfl rfl aa v h1 h2) J_ (fun _ _ _ => trivial)
theorem il_ (a r b : Str) : Fn0 Tryz.prog 99 #[str a, str r, str b] (Fc.val (au_ a r b)) := by
  refine T_ Tryz.func99 rfl rfl Tryz.ntmps99 rfl fun v0 => ?_
  refine h_ (c_ (ay_ ah_ rfl fun b1 => ?_))
  refine e_ (b_ rfl (h_ (c_ (a_ (f_ rfl) rfl (a_ (f_ rfl) rfl (a_ (f_ rfl) rfl (a_ (aL_ ie_ rfl rfl) rfl (af_ 0 B_ rfl rfl rfl rfl rfl rfl (e_ ?_)))))))))
  refine b_ rfl (H_ ?_)
  exact gb_ () (fun aa v h1 h2 => ey_ (us := Fc.cells (au_ a r b)) 0 Tryz.results99 V_ B_ rfl rfl rfl aa v h1 h2) J_ (fun _ _ _ => trivial)
theorem if_ (a r : Str) (lo hi : Int) : Fn0 Tryz.prog 90 #[str a, str r, .int .i64 lo, .int .i64 hi] (Fc.val (aF_ a r lo hi)) := by
  refine T_ Tryz.func90 rfl rfl Tryz.ntmps90 rfl fun v0 => ?_
  refine h_ (c_ (ay_ ah_ rfl fun b1 => ?_))
  refine e_ (b_ rfl (h_ (c_ (a_ (f_ rfl) rfl (a_ (f_ rfl) rfl (a_ (f_ rfl) rfl (a_ (f_ rfl) rfl (a_ (aL_ ie_ rfl rfl) rfl (af_ 0 B_ rfl rfl rfl rfl rfl rfl ?_)))))))))
  refine e_ (b_ rfl (H_ ?_))
  exact gb_ () (fun aa v h1 h2 => ey_ (us := Fc.cells (aF_ a r lo hi)) 0 Tryz.results90 V_ B_ rfl rfl rfl aa v h1 h2) J_ (fun _ _ _ => trivial)
theorem oH_ (B : EngB) (E : Emt Tryz.prog 41) (A : EngA) (pm : List (Ky × Pc)) (x : Ix) (f : Fc) (nw fm : List Fc) (Hs : Hp) (hS : E.St nw fm Hs) (hpl : ∀ k, (lat pm k).length ≤ 1000000000) (hxl : ∀ k, (lat x.above k).length ≤ 1000000000 ∧ (lat x.under k).length ≤ 1000000000) (hyl : ∀ k, (lat x.frm k).length ≤ 1000000000 ∧ (lat x.into k).length ≤ 1000000000 ∧ (lat x.ranges k).length ≤ 1000000000 ∧ (lat x.firms k).length ≤ 1000000000) : Tri Tryz.prog 100 #[zp_ B.g 0, Fc.val f] Hs [gF B E, pF B pm A, aF B x A, uF B x A, oF B x A, iF B x A, rF B x A, sF B x A, E.ef] (fun _ : {H' : Hp // E.St (emits E.stp (fS_ pm f) nw) fm H'} => .tuple #[]) (fun y => y.1) (fun _ => []) := by
  refine T_ Tryz.func100 rfl rfl Tryz.ntmps100 rfl fun v0 => ?_
  refine h_ (c_ (bh_ rfl rfl fun b1 => ?_))
  refine e_ (b_ rfl (h_ ?_))
  refine aE_ (by kernel_rfl) ?_
  refine Z_ 0 [0, 1, 2, 3, 4, 5, 6, 7, 8, 9] (by kernel_rfl) (fun _ a b => ⟨a, b⟩) (n_ rfl (f_ rfl) rfl (n_ rfl (aq_ rfl) rfl (n_ rfl (l_ K_ rfl rfl rfl dv_) rfl (n_ rfl (ai_ eb_ rfl (fun v _ h => by exact h.1) rfl) rfl (n_ rfl (l_ k_ rfl rfl rfl j_) rfl (n_ rfl (t_ 0 p_ rfl rfl rfl) rfl (n_ rfl (aL_ ep_ rfl rfl) rfl (n_ rfl (ct_ (k := (Ky.mk 1 [] (Fc.b f))) (adr := A.p) fM_ ci_ cP_ rfl rfl (fun v _ h => by exact h.2.1)) rfl (n_ rfl (ar_ P_ rfl) rfl ?_)))))))))
  refine n_ rfl (f_ rfl) rfl (Y_ (ab_ (by kernel_rfl) (b_ rfl (N_ ?_))))
  refine aB_ (ι := {y : Nat × Hp // y.1 ≤ List.length (lat pm (Ky.mk 1 [] (Fc.b f))) ∧ E.St (emits E.stp (List.map (fun y => ak_ (Fc.a f) (Pc.c y)) (List.take y.1 (lat pm (Ky.mk 1 [] (Fc.b f))))) nw) fm y.2}) (fun y => [(0, zp_ B.g 0), (3, zp_ b1 0), (13, .slice (Prod.fst (A.p (Ky.mk 1 [] (Fc.b f)))) (List.length (lat pm (Ky.mk 1 [] (Fc.b f)))) (Prod.snd (A.p (Ky.mk 1 [] (Fc.b f))))), (14, .int .i64 (List.length (lat pm (Ky.mk 1 [] (Fc.b f))) : Int)), (15, .int .i64 (y.1.1 : Int))]) (fun y => ((b1, .cells (Fc.cells f).toArray 41 (0, 0)) :: y.1.2)) (fun y => [gF B E, pF B pm A, aF B x A, uF B x A, oF B x A, iF B x A, rF B x A, sF B x A, E.ef]) (fun y => List.length (lat pm (Ky.mk 1 [] (Fc.b f))) - y.1.1) ⟨((0 : Nat), Hs), by simp, by exact hS⟩ ⟨rfl, rfl, rfl, rfl, rfl, trivial⟩ (o_ i_ aC_) (fun _ _ h => h) ?_
  rintro ⟨⟨i, Hs_i⟩, hi_i, hS_i⟩
  dsimp only at hi_i hS_i ⊢
  have hb_i := hpl (Ky.mk 1 [] (Fc.b f))
  refine h_ (c_ (y_ (ax_ rfl rfl) rfl fun r1 hr1 => ?_))
  refine e_ (b_ rfl (h_ ?_))
  cases r1
  · skip
    replace hr1 := of_decide_eq_false hr1
    refine v_ rfl (as_ rfl (bk_ rfl ?_))
    exact de_ Tryz.results100 ⟨Hs_i, by unfold fS_; rw [List.take_of_length_le (by omega)] at hS_i; exact hS_i⟩ rfl Q_ (fun _ _ _ => trivial)
  · skip
    replace hr1 := of_decide_eq_true hr1
    have hlx1 : i < List.length (lat pm (Ky.mk 1 [] (Fc.b f))) := by omega
    obtain ⟨x1, hx1⟩ : ∃ e0, (lat pm (Ky.mk 1 [] (Fc.b f)))[i]? = some e0 := ⟨_, List.getElem?_eq_getElem hlx1⟩
    have hmx1 : x1 ∈ (lat pm (Ky.mk 1 [] (Fc.b f))) := List.mem_of_getElem? hx1
    refine u_ rfl (F_ (b_ rfl (h_ (N_ (h_ (c_ (a_ (ad_ P_ R_ rfl rfl (fun v _ h => av_ (n := 10) Pc.cells_len (by decide) (by exact (bO_ h.2.1 (Ky.mk 1 [] (Fc.b f)))) hx1) (by omega) (by first | omega | (simp; done))) rfl (a_ (aJ_ (ad := (Prod.fst (A.p (Ky.mk 1 [] (Fc.b f))))) (us := Pc.cells x1) aK_ R_ rfl (fun v _ h => by exact (bO_ h.2.1 (Ky.mk 1 [] (Fc.b f)))) (Pc.cells_len _) (ag_ Pc.cells_len hx1)) rfl (ay_ bj_ rfl fun b2 => ?_)))))))))
    refine af_ 0 R_ rfl rfl rfl rfl rfl rfl (e_ (b_ rfl ?_))
    refine aP_ ((b2, .cells (Pc.cells x1).toArray 47 (0, 0)) :: ((b1, .cells (Fc.cells f).toArray 41 (0, 0)) :: [])) (by kernel_rfl) ?_
    refine Z_ 2 [0, 1, 2, 3, 4, 5, 6, 7] (by kernel_rfl) (fun _ a b => ⟨Vw.sat.sub (a.perm (o_ i_ i_)), b⟩) (n_ rfl (f_ rfl) rfl (n_ rfl (aq_ rfl) rfl (n_ rfl (l_ K_ rfl rfl rfl aU_) rfl (n_ rfl (ai_ bs_ rfl (fun v _ h => by exact h.1) rfl) rfl (n_ rfl (l_ k_ rfl rfl rfl j_) rfl (n_ rfl (t_ 1 p_ rfl rfl rfl) rfl (n_ rfl (l_ m_ rfl rfl rfl j_) rfl (n_ rfl (t_ 0 p_ rfl rfl rfl) rfl (Y_ ?_)))))))))
    refine U_ 8 rfl (by kernel_rfl) (X_ (eU_ (Fc.a f) (Pc.c x1)) rfl J_ (fun _ _ _ => by exact trivial) rfl fun _ => ?_)
    refine e_ (w_ rfl (O_ (fun _ a b => ⟨Vw.sat.sub (a.perm (o_ i_ i_)), b⟩) (U_ 9 rfl (by kernel_rfl) (ba_ (first := []) (cap := E.caps) (E.emit (ak_ (Fc.a f) (Pc.c x1)) (emits E.stp (List.map (fun y => ak_ (Fc.a f) (Pc.c y)) (List.take i (lat pm (Ky.mk 1 [] (Fc.b f))))) nw) fm Hs_i hS_i) rfl rfl (d_ Q_) (fun v _ h => by exact ⟨h.2.2.2.2.2.2.2.2.1, trivial⟩) rfl fun ⟨Hs1, hS1⟩ => ?_))))
    dsimp only
    refine e_ (w_ rfl (O_ (fun _ a b => ⟨Vw.sat.sub (a.perm (o_ (q_ i_) aX_)), b⟩) (ab_ (by kernel_rfl) (b_ rfl (c_ (a_ (M_ rfl rfl rfl (aj_ (by omega) (by omega))) rfl (a_ (f_ rfl) rfl (e_ (w_ rfl ?_)))))))))
    exact aa_ ⟨(i + 1, Hs1), hlx1, (by rw [eu_ hx1, aW_]; exact hS1)⟩ (by dsimp only; omega) ⟨rfl, rfl, rfl, rfl, rfl, trivial⟩ (o_ (q_ (d_ i_)) x_) (fun _ _ h => h)
theorem some_c (B : EngB) (E : Emt Tryz.prog 41) (A : EngA) (pm : List (Ky × Pc)) (x : Ix) (f : Fc) (nw fm : List Fc) (Hs : Hp) (hS : E.St nw fm Hs) (hpl : ∀ k, (lat pm k).length ≤ 1000000000) (hxl : ∀ k, (lat x.above k).length ≤ 1000000000 ∧ (lat x.under k).length ≤ 1000000000) (hyl : ∀ k, (lat x.frm k).length ≤ 1000000000 ∧ (lat x.into k).length ≤ 1000000000 ∧ (lat x.ranges k).length ≤ 1000000000 ∧ (lat x.firms k).length ≤ 1000000000) : Tri Tryz.prog 102 #[zp_ B.g 0, Fc.val f] Hs [gF B E, pF B pm A, aF B x A, uF B x A, oF B x A, iF B x A, rF B x A, sF B x A, E.ef] (fun _ : {H' : Hp // E.St (emits E.stp (kd_ pm f) nw) fm H'} => .tuple #[]) (fun y => y.1) (fun _ => []) := by
  refine T_ Tryz.func102 rfl rfl Tryz.ntmps102 rfl fun v0 => ?_
  refine h_ (c_ (bh_ rfl rfl fun b1 => ?_))
  refine e_ (b_ rfl (h_ ?_))
  refine aE_ (by kernel_rfl) ?_
  refine Z_ 0 [0, 1, 2, 3, 4, 5, 6, 7, 8, 9] (by kernel_rfl) (fun _ a b => ⟨a, b⟩) (n_ rfl (f_ rfl) rfl (n_ rfl (aq_ rfl) rfl (n_ rfl (l_ K_ rfl rfl rfl dv_) rfl (n_ rfl (ai_ eb_ rfl (fun v _ h => by exact h.1) rfl) rfl (n_ rfl (l_ k_ rfl rfl rfl j_) rfl (n_ rfl (t_ 0 p_ rfl rfl rfl) rfl (n_ rfl (aL_ ep_ rfl rfl) rfl (n_ rfl (ct_ (k := (Ky.mk 3 [] (Fc.b f))) (adr := A.p) fM_ ci_ cP_ rfl rfl (fun v _ h => by exact h.2.1)) rfl (n_ rfl (ar_ P_ rfl) rfl ?_)))))))))
  refine n_ rfl (f_ rfl) rfl (Y_ (ab_ (by kernel_rfl) (b_ rfl (N_ ?_))))
  refine aB_ (ι := {y : Nat × Hp // y.1 ≤ List.length (lat pm (Ky.mk 3 [] (Fc.b f))) ∧ E.St (emits E.stp (List.map (fun y => au_ (Fc.a f) (Pc.r y) (Pc.c y)) (List.take y.1 (lat pm (Ky.mk 3 [] (Fc.b f))))) nw) fm y.2}) (fun y => [(0, zp_ B.g 0), (3, zp_ b1 0), (13, .slice (Prod.fst (A.p (Ky.mk 3 [] (Fc.b f)))) (List.length (lat pm (Ky.mk 3 [] (Fc.b f)))) (Prod.snd (A.p (Ky.mk 3 [] (Fc.b f))))), (14, .int .i64 (List.length (lat pm (Ky.mk 3 [] (Fc.b f))) : Int)), (15, .int .i64 (y.1.1 : Int))]) (fun y => ((b1, .cells (Fc.cells f).toArray 41 (0, 0)) :: y.1.2)) (fun y => [gF B E, pF B pm A, aF B x A, uF B x A, oF B x A, iF B x A, rF B x A, sF B x A, E.ef]) (fun y => List.length (lat pm (Ky.mk 3 [] (Fc.b f))) - y.1.1) ⟨((0 : Nat), Hs), by simp, by exact hS⟩ ⟨rfl, rfl, rfl, rfl, rfl, trivial⟩ (o_ i_ aC_) (fun _ _ h => h) ?_
  rintro ⟨⟨i, Hs_i⟩, hi_i, hS_i⟩
  dsimp only at hi_i hS_i ⊢
  have hb_i := hpl (Ky.mk 3 [] (Fc.b f))
  refine h_ (c_ (y_ (ax_ rfl rfl) rfl fun r1 hr1 => ?_))
  refine e_ (b_ rfl (h_ ?_))
  cases r1
  · skip
    replace hr1 := of_decide_eq_false hr1
    refine v_ rfl (as_ rfl (bk_ rfl ?_))
    exact de_ Tryz.results102 ⟨Hs_i, by unfold kd_; rw [List.take_of_length_le (by omega)] at hS_i; exact hS_i⟩ rfl Q_ (fun _ _ _ => trivial)
  · skip
    replace hr1 := of_decide_eq_true hr1
    have hlx1 : i < List.length (lat pm (Ky.mk 3 [] (Fc.b f))) := by omega
    obtain ⟨x1, hx1⟩ : ∃ e0, (lat pm (Ky.mk 3 [] (Fc.b f)))[i]? = some e0 := ⟨_, List.getElem?_eq_getElem hlx1⟩
    have hmx1 : x1 ∈ (lat pm (Ky.mk 3 [] (Fc.b f))) := List.mem_of_getElem? hx1
    refine u_ rfl (F_ (b_ rfl (h_ (N_ (h_ (c_ (a_ (ad_ P_ R_ rfl rfl (fun v _ h => av_ (n := 10) Pc.cells_len (by decide) (by exact (bO_ h.2.1 (Ky.mk 3 [] (Fc.b f)))) hx1) (by omega) (by first | omega | (simp; done))) rfl (a_ (aJ_ (ad := (Prod.fst (A.p (Ky.mk 3 [] (Fc.b f))))) (us := Pc.cells x1) aK_ R_ rfl (fun v _ h => by exact (bO_ h.2.1 (Ky.mk 3 [] (Fc.b f)))) (Pc.cells_len _) (ag_ Pc.cells_len hx1)) rfl (ay_ bj_ rfl fun b2 => ?_)))))))))
    refine af_ 0 R_ rfl rfl rfl rfl rfl rfl (e_ (b_ rfl ?_))
    refine aP_ ((b2, .cells (Pc.cells x1).toArray 47 (0, 0)) :: ((b1, .cells (Fc.cells f).toArray 41 (0, 0)) :: [])) (by kernel_rfl) ?_
    refine Z_ 2 [0, 1, 2, 3, 4, 5, 6, 7, 8, 9] (by kernel_rfl) (fun _ a b => ⟨Vw.sat.sub (a.perm (o_ i_ i_)), b⟩) (n_ rfl (f_ rfl) rfl (n_ rfl (aq_ rfl) rfl (n_ rfl (l_ K_ rfl rfl rfl aU_) rfl (n_ rfl (ai_ bs_ rfl (fun v _ h => by exact h.1) rfl) rfl (n_ rfl (l_ k_ rfl rfl rfl j_) rfl (n_ rfl (t_ 1 p_ rfl rfl rfl) rfl (n_ rfl (l_ m_ rfl rfl rfl j_) rfl (n_ rfl (t_ 0 p_ rfl rfl rfl) rfl (n_ rfl (l_ m_ rfl rfl rfl j_) rfl ?_)))))))))
    refine n_ rfl (t_ 0 p_ rfl rfl rfl) rfl (Y_ (U_ 10 rfl (by kernel_rfl) (X_ (il_ (Fc.a f) (Pc.r x1) (Pc.c x1)) rfl J_ (fun _ _ _ => by exact trivial) rfl fun _ => ?_)))
    refine e_ (w_ rfl (O_ (fun _ a b => ⟨Vw.sat.sub (a.perm (o_ i_ i_)), b⟩) (U_ 11 rfl (by kernel_rfl) (ba_ (first := []) (cap := E.caps) (E.emit (au_ (Fc.a f) (Pc.r x1) (Pc.c x1)) (emits E.stp (List.map (fun y => au_ (Fc.a f) (Pc.r y) (Pc.c y)) (List.take i (lat pm (Ky.mk 3 [] (Fc.b f))))) nw) fm Hs_i hS_i) rfl rfl (d_ Q_) (fun v _ h => by exact ⟨h.2.2.2.2.2.2.2.2.1, trivial⟩) rfl fun ⟨Hs1, hS1⟩ => ?_))))
    dsimp only
    refine e_ (w_ rfl (O_ (fun _ a b => ⟨Vw.sat.sub (a.perm (o_ (q_ i_) aX_)), b⟩) (ab_ (by kernel_rfl) (b_ rfl (c_ (a_ (M_ rfl rfl rfl (aj_ (by omega) (by omega))) rfl (a_ (f_ rfl) rfl (e_ (w_ rfl ?_)))))))))
    exact aa_ ⟨(i + 1, Hs1), hlx1, (by rw [eu_ hx1, aW_]; exact hS1)⟩ (by dsimp only; omega) ⟨rfl, rfl, rfl, rfl, rfl, trivial⟩ (o_ (q_ (d_ i_)) x_) (fun _ _ h => h)
theorem oD_ (B : EngB) (E : Emt Tryz.prog 41) (A : EngA) (pm : List (Ky × Pc)) (x : Ix) (f : Fc) (nw fm : List Fc) (Hs : Hp) (hS : E.St nw fm Hs) (hpl : ∀ k, (lat pm k).length ≤ 1000000000) (hxl : ∀ k, (lat x.above k).length ≤ 1000000000 ∧ (lat x.under k).length ≤ 1000000000) (hyl : ∀ k, (lat x.frm k).length ≤ 1000000000 ∧ (lat x.into k).length ≤ 1000000000 ∧ (lat x.ranges k).length ≤ 1000000000 ∧ (lat x.firms k).length ≤ 1000000000) : Tri Tryz.prog 106 #[zp_ B.g 0, Fc.val f] Hs [gF B E, pF B pm A, aF B x A, uF B x A, oF B x A, iF B x A, rF B x A, sF B x A, E.ef] (fun _ : {H' : Hp // E.St (emits E.stp (fP_ pm f) nw) fm H'} => .tuple #[]) (fun y => y.1) (fun _ => []) := by
  refine T_ Tryz.func106 rfl rfl Tryz.ntmps106 rfl fun v0 => ?_
  refine h_ (c_ (bh_ rfl rfl fun b1 => ?_))
  refine e_ (b_ rfl (h_ ?_))
  refine aE_ (by kernel_rfl) ?_
  refine Z_ 0 [0, 1, 2, 3, 4, 5, 6, 7, 8, 9] (by kernel_rfl) (fun _ a b => ⟨a, b⟩) (n_ rfl (f_ rfl) rfl (n_ rfl (aq_ rfl) rfl (n_ rfl (l_ K_ rfl rfl rfl dv_) rfl (n_ rfl (ai_ eb_ rfl (fun v _ h => by exact h.1) rfl) rfl (n_ rfl (l_ k_ rfl rfl rfl j_) rfl (n_ rfl (t_ 0 p_ rfl rfl rfl) rfl (n_ rfl (aL_ ep_ rfl rfl) rfl (n_ rfl (ct_ (k := (Ky.mk 5 (Fc.r f) [])) (adr := A.p) fM_ ci_ cP_ rfl rfl (fun v _ h => by exact h.2.1)) rfl (n_ rfl (ar_ P_ rfl) rfl ?_)))))))))
  refine n_ rfl (f_ rfl) rfl (Y_ (ab_ (by kernel_rfl) (b_ rfl (N_ ?_))))
  refine aB_ (ι := {y : Nat × Hp // y.1 ≤ List.length (lat pm (Ky.mk 5 (Fc.r f) [])) ∧ E.St (emits E.stp (List.map (fun y => au_ (Fc.a f) (Pc.t y) (Fc.b f)) (List.take y.1 (lat pm (Ky.mk 5 (Fc.r f) [])))) nw) fm y.2}) (fun y => [(0, zp_ B.g 0), (3, zp_ b1 0), (13, .slice (Prod.fst (A.p (Ky.mk 5 (Fc.r f) []))) (List.length (lat pm (Ky.mk 5 (Fc.r f) []))) (Prod.snd (A.p (Ky.mk 5 (Fc.r f) [])))), (14, .int .i64 (List.length (lat pm (Ky.mk 5 (Fc.r f) [])) : Int)), (15, .int .i64 (y.1.1 : Int))]) (fun y => ((b1, .cells (Fc.cells f).toArray 41 (0, 0)) :: y.1.2)) (fun y => [gF B E, pF B pm A, aF B x A, uF B x A, oF B x A, iF B x A, rF B x A, sF B x A, E.ef]) (fun y => List.length (lat pm (Ky.mk 5 (Fc.r f) [])) - y.1.1) ⟨((0 : Nat), Hs), by simp, by exact hS⟩ ⟨rfl, rfl, rfl, rfl, rfl, trivial⟩ (o_ i_ aC_) (fun _ _ h => h) ?_
  rintro ⟨⟨i, Hs_i⟩, hi_i, hS_i⟩
  dsimp only at hi_i hS_i ⊢
  have hb_i := hpl (Ky.mk 5 (Fc.r f) [])
  refine h_ (c_ (y_ (ax_ rfl rfl) rfl fun r1 hr1 => ?_))
  refine e_ (b_ rfl (h_ ?_))
  cases r1
  · skip
    replace hr1 := of_decide_eq_false hr1
    refine v_ rfl (as_ rfl (bk_ rfl ?_))
    exact de_ Tryz.results106 ⟨Hs_i, by unfold fP_; rw [List.take_of_length_le (by omega)] at hS_i; exact hS_i⟩ rfl Q_ (fun _ _ _ => trivial)
  · skip
    replace hr1 := of_decide_eq_true hr1
    have hlx1 : i < List.length (lat pm (Ky.mk 5 (Fc.r f) [])) := by omega
    obtain ⟨x1, hx1⟩ : ∃ e0, (lat pm (Ky.mk 5 (Fc.r f) []))[i]? = some e0 := ⟨_, List.getElem?_eq_getElem hlx1⟩
    have hmx1 : x1 ∈ (lat pm (Ky.mk 5 (Fc.r f) [])) := List.mem_of_getElem? hx1
    refine u_ rfl (F_ (b_ rfl (h_ (N_ (h_ (c_ (a_ (ad_ P_ R_ rfl rfl (fun v _ h => av_ (n := 10) Pc.cells_len (by decide) (by exact (bO_ h.2.1 (Ky.mk 5 (Fc.r f) []))) hx1) (by omega) (by first | omega | (simp; done))) rfl (a_ (aJ_ (ad := (Prod.fst (A.p (Ky.mk 5 (Fc.r f) [])))) (us := Pc.cells x1) aK_ R_ rfl (fun v _ h => by exact (bO_ h.2.1 (Ky.mk 5 (Fc.r f) []))) (Pc.cells_len _) (ag_ Pc.cells_len hx1)) rfl (ay_ bj_ rfl fun b2 => ?_)))))))))
    refine af_ 0 R_ rfl rfl rfl rfl rfl rfl (e_ (b_ rfl ?_))
    refine aP_ ((b2, .cells (Pc.cells x1).toArray 47 (0, 0)) :: ((b1, .cells (Fc.cells f).toArray 41 (0, 0)) :: [])) (by kernel_rfl) ?_
    refine Z_ 2 [0, 1, 2, 3, 4, 5, 6, 7, 8, 9] (by kernel_rfl) (fun _ a b => ⟨Vw.sat.sub (a.perm (o_ i_ i_)), b⟩) (n_ rfl (f_ rfl) rfl (n_ rfl (aq_ rfl) rfl (n_ rfl (l_ K_ rfl rfl rfl aU_) rfl (n_ rfl (ai_ bs_ rfl (fun v _ h => by exact h.1) rfl) rfl (n_ rfl (l_ k_ rfl rfl rfl j_) rfl (n_ rfl (t_ 1 p_ rfl rfl rfl) rfl (n_ rfl (l_ m_ rfl rfl rfl j_) rfl (n_ rfl (t_ 0 p_ rfl rfl rfl) rfl (n_ rfl (l_ k_ rfl rfl rfl j_) rfl ?_)))))))))
    refine n_ rfl (t_ 1 p_ rfl rfl rfl) rfl (Y_ (U_ 10 rfl (by kernel_rfl) (X_ (il_ (Fc.a f) (Pc.t x1) (Fc.b f)) rfl J_ (fun _ _ _ => by exact trivial) rfl fun _ => ?_)))
    refine e_ (w_ rfl (O_ (fun _ a b => ⟨Vw.sat.sub (a.perm (o_ i_ i_)), b⟩) (U_ 11 rfl (by kernel_rfl) (ba_ (first := []) (cap := E.caps) (E.emit (au_ (Fc.a f) (Pc.t x1) (Fc.b f)) (emits E.stp (List.map (fun y => au_ (Fc.a f) (Pc.t y) (Fc.b f)) (List.take i (lat pm (Ky.mk 5 (Fc.r f) [])))) nw) fm Hs_i hS_i) rfl rfl (d_ Q_) (fun v _ h => by exact ⟨h.2.2.2.2.2.2.2.2.1, trivial⟩) rfl fun ⟨Hs1, hS1⟩ => ?_))))
    dsimp only
    refine e_ (w_ rfl (O_ (fun _ a b => ⟨Vw.sat.sub (a.perm (o_ (q_ i_) aX_)), b⟩) (ab_ (by kernel_rfl) (b_ rfl (c_ (a_ (M_ rfl rfl rfl (aj_ (by omega) (by omega))) rfl (a_ (f_ rfl) rfl (e_ (w_ rfl ?_)))))))))
    exact aa_ ⟨(i + 1, Hs1), hlx1, (by rw [eu_ hx1, aW_]; exact hS1)⟩ (by dsimp only; omega) ⟨rfl, rfl, rfl, rfl, rfl, trivial⟩ (o_ (q_ (d_ i_)) x_) (fun _ _ h => h)
theorem fR_ {α β : Type} {g : α → List β} {l : List α} {i : Nat} {x : α} (h : l[i]? = some x) : List.flatMap g (List.take (i + 1) l) = List.flatMap g (List.take i l) ++ g x := by
  rw [List.take_add_one, h, Option.toList_some, List.flatMap_append]; simp
theorem iw_ {stp : Fc → List Fc → List Fc} {kof : List Fc → List Fc} {f : Fc} {l : List Pc} {i : Nat} {x : Pc} {s : List Fc} (h : l[i]? = some x) : ec_ stp kof f (List.take (i + 1) l) s = if ak_ f.a x.a ∈ kof (ec_ stp kof f (List.take i l) s) ∧ ak_ f.a x.b ∈ kof (ec_ stp kof f (List.take i l) s) then stp (ak_ f.a x.c) (ec_ stp kof f (List.take i l) s) else ec_ stp kof f (List.take i l) s := by
  unfold ec_
  rw [List.take_add_one, h, Option.toList_some, List.foldl_append]; rfl
theorem iW_ {stp : Fc → List Fc → List Fc} {kof : List Fc → List Fc} {f : Fc} {l : List Pc} {i : Nat} {x : Pc} {s : List Fc × List Fc} (h : l[i]? = some x) : cw_ stp kof f (List.take (i + 1) l) s = (stp (aF_ f.a x.r x.lo x.hi) (cw_ stp kof f (List.take i l) s).1, if aF_ f.a x.r x.lo x.hi ∈ kof (cw_ stp kof f (List.take i l) s).1 then (cw_ stp kof f (List.take i l) s).2 else aF_ f.a x.r x.lo x.hi :: (cw_ stp kof f (List.take i l) s).2) := by
  unfold cw_
  rw [List.take_add_one, h, Option.toList_some, List.foldl_append]; rfl
theorem both_c (B : EngB) (E : Emt Tryz.prog 41) (A : EngA) (pm : List (Ky × Pc)) (x : Ix) (f : Fc) (nw fm : List Fc) (Hs : Hp) (hS : E.St nw fm Hs) (hpl : ∀ k, (lat pm k).length ≤ 1000000000) (hxl : ∀ k, (lat x.above k).length ≤ 1000000000 ∧ (lat x.under k).length ≤ 1000000000) (hyl : ∀ k, (lat x.frm k).length ≤ 1000000000 ∧ (lat x.into k).length ≤ 1000000000 ∧ (lat x.ranges k).length ≤ 1000000000 ∧ (lat x.firms k).length ≤ 1000000000) : Tri Tryz.prog 101 #[zp_ B.g 0, Fc.val f] Hs [gF B E, pF B pm A, aF B x A, uF B x A, oF B x A, iF B x A, rF B x A, sF B x A, E.ef] (fun _ : {H' : Hp // E.St (ec_ E.stp E.kof f (lat pm (Ky.mk 2 [] (Fc.b f))) nw) fm H'} => .tuple #[]) (fun y => y.1) (fun _ => []) := by
 refine T_ Tryz.func101 rfl rfl Tryz.ntmps101 rfl fun v0 => ?_
 refine h_ (c_ (bh_ rfl rfl fun b1 => ?_))
 refine e_ (b_ rfl (h_ ?_))
 refine aE_ (by kernel_rfl) ?_
 refine Z_ 0 [0, 1, 2, 3, 4, 5, 6, 7, 8, 9] (by kernel_rfl) (fun _ a b => ⟨a, b⟩) (n_ rfl (f_ rfl) rfl (n_ rfl (aq_ rfl) rfl (n_ rfl (l_ K_ rfl rfl rfl dv_) rfl (n_ rfl (ai_ eb_ rfl (fun v _ h => by exact h.1) rfl) rfl (n_ rfl (l_ k_ rfl rfl rfl j_) rfl (n_ rfl (t_ 0 p_ rfl rfl rfl) rfl (n_ rfl (aL_ ep_ rfl rfl) rfl (n_ rfl (ct_ (k := (Ky.mk 2 [] (Fc.b f))) (adr := A.p) fM_ ci_ cP_ rfl rfl (fun v _ h => by exact h.2.1)) rfl (n_ rfl (ar_ P_ rfl) rfl ?_)))))))))
 refine n_ rfl (f_ rfl) rfl (Y_ (ab_ (by kernel_rfl) (b_ rfl (N_ ?_))))
 refine aB_ (ι := {y : Nat × Hp // y.1 ≤ List.length (lat pm (Ky.mk 2 [] (Fc.b f))) ∧ E.St (ec_ E.stp E.kof f (List.take y.1 (lat pm (Ky.mk 2 [] (Fc.b f)))) nw) fm y.2}) (fun y => [(0, zp_ B.g 0), (3, zp_ b1 0), (13, .slice (Prod.fst (A.p (Ky.mk 2 [] (Fc.b f)))) (List.length (lat pm (Ky.mk 2 [] (Fc.b f)))) (Prod.snd (A.p (Ky.mk 2 [] (Fc.b f))))), (14, .int .i64 (List.length (lat pm (Ky.mk 2 [] (Fc.b f))) : Int)), (15, .int .i64 (y.1.1 : Int))]) (fun y => ((b1, .cells (Fc.cells f).toArray 41 (0, 0)) :: y.1.2)) (fun y => [gF B E, pF B pm A, aF B x A, uF B x A, oF B x A, iF B x A, rF B x A, sF B x A, E.ef]) (fun y => List.length (lat pm (Ky.mk 2 [] (Fc.b f))) - y.1.1) ⟨((0 : Nat), Hs), by simp, by exact hS⟩ ⟨rfl, rfl, rfl, rfl, rfl, trivial⟩ (o_ i_ aC_) (fun _ _ h => h) ?_
 rintro ⟨⟨i, Hs_i⟩, hi_i, hS_i⟩
 dsimp only at hi_i hS_i ⊢
 have hb_i := hpl (Ky.mk 2 [] (Fc.b f))
 refine h_ (c_ (y_ (ax_ rfl rfl) rfl fun r1 hr1 => ?_))
 refine e_ (b_ rfl (h_ ?_))
 cases r1
 ·
  replace hr1 := of_decide_eq_false hr1
  refine v_ rfl (as_ rfl (bk_ rfl ?_))
  exact de_ Tryz.results101 ⟨Hs_i, by rw [List.take_of_length_le (by omega)] at hS_i; exact hS_i⟩ rfl Q_ (fun _ _ _ => trivial)
 ·
  replace hr1 := of_decide_eq_true hr1
  have hlx1 : i < List.length (lat pm (Ky.mk 2 [] (Fc.b f))) := by omega
  obtain ⟨x1, hx1⟩ : ∃ e0, (lat pm (Ky.mk 2 [] (Fc.b f)))[i]? = some e0 := ⟨_, List.getElem?_eq_getElem hlx1⟩
  have hmx1 : x1 ∈ (lat pm (Ky.mk 2 [] (Fc.b f))) := List.mem_of_getElem? hx1
  refine u_ rfl (F_ (b_ rfl (h_ (N_ (h_ (c_ (a_ (ad_ P_ R_ rfl rfl (fun v _ h => av_ (n := 10) Pc.cells_len (by decide) (by exact (bO_ h.2.1 (Ky.mk 2 [] (Fc.b f)))) hx1) (by omega) (by first | omega | (simp; done))) rfl (a_ (aJ_ (ad := (Prod.fst (A.p (Ky.mk 2 [] (Fc.b f))))) (us := Pc.cells x1) aK_ R_ rfl (fun v _ h => by exact (bO_ h.2.1 (Ky.mk 2 [] (Fc.b f)))) (Pc.cells_len _) (ag_ Pc.cells_len hx1)) rfl (ay_ bj_ rfl fun b2 => ?_)))))))))
  refine af_ 0 R_ rfl rfl rfl rfl rfl rfl (e_ (b_ rfl (h_ ?_)))
  refine aE_ (by kernel_rfl) ?_
  refine Z_ 14 [0, 1, 2, 3, 4, 5, 6, 7] (by kernel_rfl) (fun _ a b => ⟨a, b⟩) (n_ rfl (f_ rfl) rfl (n_ rfl (aq_ rfl) rfl (n_ rfl (l_ K_ rfl rfl rfl bB_) rfl (n_ rfl (ai_ bH_ rfl (fun v _ h => by exact h.1) rfl) rfl (n_ rfl (l_ k_ rfl rfl rfl j_) rfl (n_ rfl (t_ 1 p_ rfl rfl rfl) rfl (n_ rfl (l_ m_ rfl rfl rfl j_) rfl (n_ rfl (t_ 0 p_ rfl rfl rfl) rfl (Y_ ?_)))))))))
  refine U_ 8 rfl (by kernel_rfl) (X_ (eU_ (Fc.a f) (Pc.a x1)) rfl J_ (fun _ _ _ => by exact trivial) rfl fun _ => ?_)
  refine e_ (w_ rfl (O_ (fun _ a b => ⟨a, b⟩) (Z_ 11 [9, 10] (by kernel_rfl) (fun _ a b => ⟨a, b⟩) ?_)))
  refine bX_ rfl (gV_ (f := (ak_ (Fc.a f) (Pc.a x1))) hS_i fN_ aV_ cl_ rfl rfl (d_ Q_)) rfl fun r2 hr2 => ?_
  refine n_ rfl (f_ rfl) rfl (Y_ ?_)
  cases r2
  ·
   replace hr2 := of_decide_eq_false hr2
   refine Z_ 0 [11, 12, 13, 14, 15, 16, 17, 18, 19, 20, 21] (by kernel_rfl) (fun _ a b => ⟨a, b⟩) (ac_ rfl rfl rfl rfl rfl (ac_ rfl rfl rfl rfl rfl (ac_ rfl rfl rfl rfl rfl (ac_ rfl rfl rfl rfl rfl (ac_ rfl rfl rfl rfl rfl (ac_ rfl rfl rfl rfl rfl (ac_ rfl rfl rfl rfl rfl (ac_ rfl rfl rfl rfl rfl (ac_ rfl rfl rfl rfl rfl ?_)))))))))
   refine ac_ rfl rfl rfl rfl rfl (n_ rfl (A_ rfl rfl) rfl (Y_ (ab_ (by kernel_rfl) (b_ rfl (v_ rfl (F_ (b_ rfl (c_ (a_ (M_ rfl rfl rfl (aj_ (by omega) (by omega))) rfl ?_)))))))))
   refine a_ (f_ rfl) rfl (e_ (w_ rfl ?_))
   exact aa_ ⟨(i + 1, Hs_i), hlx1, (by rw [iw_ hx1]; first | (rw [if_pos ⟨by assumption, by assumption⟩]; exact hS_i) | (rw [if_neg (fun q => absurd q.1 (by assumption))]; exact hS_i) | (rw [if_neg (fun q => absurd q.2 (by assumption))]; exact hS_i))⟩ (by dsimp only; omega) ⟨rfl, rfl, rfl, rfl, rfl, trivial⟩ (o_ (d_ i_) Q_) (fun _ _ h => h)
  ·
   replace hr2 := of_decide_eq_true hr2
   refine Z_ 3 [11, 12, 13, 14, 15, 16, 17, 18] (by kernel_rfl) (fun _ a b => ⟨a, b⟩) (W_ rfl rfl rfl (f_ rfl) rfl (W_ rfl rfl rfl (aq_ rfl) rfl (W_ rfl rfl rfl (l_ K_ rfl rfl rfl bB_) rfl (W_ rfl rfl rfl (ai_ bH_ rfl (fun v _ h => by exact h.1) rfl) rfl (W_ rfl rfl rfl (l_ k_ rfl rfl rfl j_) rfl (W_ rfl rfl rfl (t_ 1 p_ rfl rfl rfl) rfl (W_ rfl rfl rfl (l_ m_ rfl rfl rfl j_) rfl (W_ rfl rfl rfl (t_ 0 p_ rfl rfl rfl) rfl (Y_ ?_)))))))))
   refine U_ 19 rfl (by kernel_rfl) (r_ rfl rfl (X_ (eU_ (Fc.a f) (Pc.b x1)) rfl J_ (fun _ _ _ => by exact trivial) rfl fun _ => ?_))
   refine e_ (w_ rfl (O_ (fun _ a b => ⟨a, b⟩) (Z_ 0 [20, 21] (by kernel_rfl) (fun _ a b => ⟨a, b⟩) ?_)))
   refine bQ_ rfl rfl rfl (gV_ (f := (ak_ (Fc.a f) (Pc.b x1))) hS_i fN_ aV_ cl_ rfl rfl (d_ Q_)) rfl fun r3 hr3 => ?_
   refine n_ rfl (G_ rfl rfl) rfl (Y_ (ab_ (by kernel_rfl) (b_ rfl ?_)))
   cases r3
   ·
    replace hr3 := of_decide_eq_false hr3
    refine v_ rfl (F_ (b_ rfl (c_ (a_ (M_ rfl rfl rfl (aj_ (by omega) (by omega))) rfl (a_ (f_ rfl) rfl (e_ (w_ rfl ?_)))))))
    exact aa_ ⟨(i + 1, Hs_i), hlx1, (by rw [iw_ hx1]; first | (rw [if_pos ⟨by assumption, by assumption⟩]; exact hS_i) | (rw [if_neg (fun q => absurd q.1 (by assumption))]; exact hS_i) | (rw [if_neg (fun q => absurd q.2 (by assumption))]; exact hS_i))⟩ (by dsimp only; omega) ⟨rfl, rfl, rfl, rfl, rfl, trivial⟩ (o_ (d_ i_) Q_) (fun _ _ h => h)
   ·
    replace hr3 := of_decide_eq_true hr3
    refine u_ rfl ?_
    refine aP_ ((b2, .cells (Pc.cells x1).toArray 47 (0, 0)) :: ((b1, .cells (Fc.cells f).toArray 41 (0, 0)) :: [])) (by kernel_rfl) ?_
    refine Z_ 2 [0, 1, 2, 3, 4, 5, 6, 7] (by kernel_rfl) (fun _ a b => ⟨Vw.sat.sub (a.perm (o_ i_ i_)), b⟩) (n_ rfl (f_ rfl) rfl (n_ rfl (aq_ rfl) rfl (n_ rfl (l_ K_ rfl rfl rfl aU_) rfl (n_ rfl (ai_ bs_ rfl (fun v _ h => by exact h.1) rfl) rfl (n_ rfl (l_ k_ rfl rfl rfl j_) rfl (n_ rfl (t_ 1 p_ rfl rfl rfl) rfl (n_ rfl (l_ m_ rfl rfl rfl j_) rfl (n_ rfl (t_ 0 p_ rfl rfl rfl) rfl (Y_ ?_)))))))))
    refine U_ 8 rfl (by kernel_rfl) (X_ (eU_ (Fc.a f) (Pc.c x1)) rfl J_ (fun _ _ _ => by exact trivial) rfl fun _ => ?_)
    refine e_ (w_ rfl (O_ (fun _ a b => ⟨Vw.sat.sub (a.perm (o_ i_ i_)), b⟩) (U_ 9 rfl (by kernel_rfl) (ba_ (first := []) (cap := E.caps) (E.emit (ak_ (Fc.a f) (Pc.c x1)) (ec_ E.stp E.kof f (List.take i (lat pm (Ky.mk 2 [] (Fc.b f)))) nw) fm Hs_i hS_i) rfl rfl (d_ Q_) (fun v _ h => by exact ⟨h.2.2.2.2.2.2.2.2.1, trivial⟩) rfl fun ⟨Hs1, hS1⟩ => ?_))))
    dsimp only
    refine e_ (w_ rfl (O_ (fun _ a b => ⟨Vw.sat.sub (a.perm (o_ (q_ i_) aX_)), b⟩) (ab_ (by kernel_rfl) (b_ rfl (c_ (a_ (M_ rfl rfl rfl (aj_ (by omega) (by omega))) rfl (a_ (f_ rfl) rfl (e_ (w_ rfl ?_)))))))))
    exact aa_ ⟨(i + 1, Hs1), hlx1, (by rw [iw_ hx1]; first | (rw [if_pos ⟨by assumption, by assumption⟩]; exact hS1) | (rw [if_neg (fun q => absurd q.1 (by assumption))]; exact hS1) | (rw [if_neg (fun q => absurd q.2 (by assumption))]; exact hS1))⟩ (by dsimp only; omega) ⟨rfl, rfl, rfl, rfl, rfl, trivial⟩ (o_ (q_ (d_ i_)) x_) (fun _ _ h => h)
theorem qo_ (B : EngB) (E : Emt Tryz.prog 41) (A : EngA) (pm : List (Ky × Pc)) (x : Ix) (f : Fc) (nw fm : List Fc) (Hs : Hp) (hS : E.St nw fm Hs) (hpl : ∀ k, (lat pm k).length ≤ 1000000000) (hxl : ∀ k, (lat x.above k).length ≤ 1000000000 ∧ (lat x.under k).length ≤ 1000000000) (hyl : ∀ k, (lat x.frm k).length ≤ 1000000000 ∧ (lat x.into k).length ≤ 1000000000 ∧ (lat x.ranges k).length ≤ 1000000000 ∧ (lat x.firms k).length ≤ 1000000000) : Tri Tryz.prog 105 #[zp_ B.g 0, Fc.val f] Hs [gF B E, pF B pm A, aF B x A, uF B x A, oF B x A, iF B x A, rF B x A, sF B x A, E.ef] (fun _ : {H' : Hp // E.St (Prod.fst (cw_ E.stp E.kof f (lat pm (Ky.mk 8 [] (Fc.b f))) (nw, fm))) (Prod.snd (cw_ E.stp E.kof f (lat pm (Ky.mk 8 [] (Fc.b f))) (nw, fm))) H'} => .tuple #[]) (fun y => y.1) (fun _ => []) := by
 refine T_ Tryz.func105 rfl rfl Tryz.ntmps105 rfl fun v0 => ?_
 refine h_ (c_ (bh_ rfl rfl fun b1 => ?_))
 refine e_ (b_ rfl (h_ ?_))
 refine aE_ (by kernel_rfl) ?_
 refine Z_ 0 [0, 1, 2, 3, 4, 5, 6, 7, 8, 9] (by kernel_rfl) (fun _ a b => ⟨a, b⟩) (n_ rfl (f_ rfl) rfl (n_ rfl (aq_ rfl) rfl (n_ rfl (l_ K_ rfl rfl rfl dv_) rfl (n_ rfl (ai_ eb_ rfl (fun v _ h => by exact h.1) rfl) rfl (n_ rfl (l_ k_ rfl rfl rfl j_) rfl (n_ rfl (t_ 0 p_ rfl rfl rfl) rfl (n_ rfl (aL_ ep_ rfl rfl) rfl (n_ rfl (ct_ (k := (Ky.mk 8 [] (Fc.b f))) (adr := A.p) fM_ ci_ cP_ rfl rfl (fun v _ h => by exact h.2.1)) rfl (n_ rfl (ar_ P_ rfl) rfl ?_)))))))))
 refine n_ rfl (f_ rfl) rfl (Y_ (ab_ (by kernel_rfl) (b_ rfl (N_ ?_))))
 refine aB_ (ι := {y : Nat × Hp // y.1 ≤ List.length (lat pm (Ky.mk 8 [] (Fc.b f))) ∧ E.St (Prod.fst (cw_ E.stp E.kof f (List.take y.1 (lat pm (Ky.mk 8 [] (Fc.b f)))) (nw, fm))) (Prod.snd (cw_ E.stp E.kof f (List.take y.1 (lat pm (Ky.mk 8 [] (Fc.b f)))) (nw, fm))) y.2}) (fun y => [(0, zp_ B.g 0), (3, zp_ b1 0), (14, .slice (Prod.fst (A.p (Ky.mk 8 [] (Fc.b f)))) (List.length (lat pm (Ky.mk 8 [] (Fc.b f)))) (Prod.snd (A.p (Ky.mk 8 [] (Fc.b f))))), (15, .int .i64 (List.length (lat pm (Ky.mk 8 [] (Fc.b f))) : Int)), (16, .int .i64 (y.1.1 : Int))]) (fun y => ((b1, .cells (Fc.cells f).toArray 41 (0, 0)) :: y.1.2)) (fun y => [gF B E, pF B pm A, aF B x A, uF B x A, oF B x A, iF B x A, rF B x A, sF B x A, E.ef]) (fun y => List.length (lat pm (Ky.mk 8 [] (Fc.b f))) - y.1.1) ⟨((0 : Nat), Hs), by simp, by exact hS⟩ ⟨rfl, rfl, rfl, rfl, rfl, trivial⟩ (o_ i_ aC_) (fun _ _ h => h) ?_
 rintro ⟨⟨i, Hs_i⟩, hi_i, hS_i⟩
 dsimp only at hi_i hS_i ⊢
 have hb_i := hpl (Ky.mk 8 [] (Fc.b f))
 refine h_ (c_ (y_ (ax_ rfl rfl) rfl fun r1 hr1 => ?_))
 refine e_ (b_ rfl (h_ ?_))
 cases r1
 ·
  replace hr1 := of_decide_eq_false hr1
  refine v_ rfl (as_ rfl (bk_ rfl ?_))
  exact de_ Tryz.results105 ⟨Hs_i, by rw [List.take_of_length_le (by omega)] at hS_i; exact hS_i⟩ rfl Q_ (fun _ _ _ => trivial)
 ·
  replace hr1 := of_decide_eq_true hr1
  have hlx1 : i < List.length (lat pm (Ky.mk 8 [] (Fc.b f))) := by omega
  obtain ⟨x1, hx1⟩ : ∃ e0, (lat pm (Ky.mk 8 [] (Fc.b f)))[i]? = some e0 := ⟨_, List.getElem?_eq_getElem hlx1⟩
  have hmx1 : x1 ∈ (lat pm (Ky.mk 8 [] (Fc.b f))) := List.mem_of_getElem? hx1
  refine u_ rfl (F_ (b_ rfl (h_ (N_ (h_ (c_ (a_ (ad_ P_ R_ rfl rfl (fun v _ h => av_ (n := 10) Pc.cells_len (by decide) (by exact (bO_ h.2.1 (Ky.mk 8 [] (Fc.b f)))) hx1) (by omega) (by first | omega | (simp; done))) rfl (a_ (aJ_ (ad := (Prod.fst (A.p (Ky.mk 8 [] (Fc.b f))))) (us := Pc.cells x1) aK_ R_ rfl (fun v _ h => by exact (bO_ h.2.1 (Ky.mk 8 [] (Fc.b f)))) (Pc.cells_len _) (ag_ Pc.cells_len hx1)) rfl (ay_ bj_ rfl fun b2 => ?_)))))))))
  refine af_ 0 R_ rfl rfl rfl rfl rfl rfl (e_ (b_ rfl (h_ (c_ (a_ (l_ k_ rfl rfl rfl j_) rfl (a_ (t_ 1 p_ rfl rfl rfl) rfl (a_ (l_ m_ rfl rfl rfl j_) rfl (a_ (t_ 0 p_ rfl rfl rfl) rfl (a_ (l_ m_ rfl rfl rfl I_) rfl ?_)))))))))
  refine a_ (t_ 0 L_ rfl rfl rfl) rfl (a_ (l_ m_ rfl rfl rfl I_) rfl (a_ (t_ 0 L_ rfl rfl rfl) rfl (X_ (if_ (Fc.a f) (Pc.r x1) (Pc.lo x1) (Pc.hi x1)) rfl J_ (fun _ _ _ => by exact trivial) rfl fun _ => ?_)))
  refine ay_ ah_ rfl fun b3 => ?_
  refine af_ 0 B_ rfl rfl rfl rfl rfl rfl (e_ (b_ rfl (h_ (h_ ?_))))
  refine aE_ (by kernel_rfl) ?_
  refine Z_ 0 [0, 1, 2, 3, 4, 5, 6] (by kernel_rfl) (fun _ a b => ⟨a, b⟩) (n_ rfl (f_ rfl) rfl (n_ rfl (aq_ rfl) rfl (n_ rfl (l_ K_ rfl rfl rfl bB_) rfl (n_ rfl (ai_ bH_ rfl (fun v _ h => by exact h.1) rfl) rfl (n_ rfl (ae_ 0 V_ B_ rfl rfl rfl) rfl ?_)))))
  refine bX_ rfl (gV_ (f := (aF_ (Fc.a f) (Pc.r x1) (Pc.lo x1) (Pc.hi x1))) hS_i fN_ aV_ cl_ rfl rfl (d_ (d_ Q_))) rfl fun r2 hr2 => ?_
  refine n_ rfl (bN_ rfl) rfl (Y_ (ab_ (by kernel_rfl) (b_ rfl ?_)))
  cases r2
  ·
   replace hr2 := of_decide_eq_false hr2
   refine u_ rfl ?_
   refine aP_ ((b3, .cells #[.int .i64 (Fc.kind (aF_ (Fc.a f) (Pc.r x1) (Pc.lo x1) (Pc.hi x1))), str (Fc.a (aF_ (Fc.a f) (Pc.r x1) (Pc.lo x1) (Pc.hi x1))), str (Fc.b (aF_ (Fc.a f) (Pc.r x1) (Pc.lo x1) (Pc.hi x1))), str (Fc.r (aF_ (Fc.a f) (Pc.r x1) (Pc.lo x1) (Pc.hi x1))), .int .i64 (Fc.lo (aF_ (Fc.a f) (Pc.r x1) (Pc.lo x1) (Pc.hi x1))), .int .i64 (Fc.hi (aF_ (Fc.a f) (Pc.r x1) (Pc.lo x1) (Pc.hi x1)))] 41 (0, 0)) :: ((b2, .cells (Pc.cells x1).toArray 47 (0, 0)) :: ((b1, .cells (Fc.cells f).toArray 41 (0, 0)) :: []))) (by kernel_rfl) ?_
   refine Z_ 1 [0, 1, 2, 3, 4] (by kernel_rfl) (fun _ a b => ⟨Vw.sat.sub (a.perm (o_ i_ (o_ i_ i_))), b⟩) (n_ rfl (f_ rfl) rfl (n_ rfl (aq_ rfl) rfl (n_ rfl (l_ K_ rfl rfl rfl bB_) rfl (n_ rfl (ai_ bH_ rfl (fun v _ h => by exact h.1) rfl) rfl (n_ rfl (ae_ 0 V_ B_ rfl rfl rfl) rfl (Y_ (U_ 5 rfl (by kernel_rfl) (px_ (f := (aF_ (Fc.a f) (Pc.r x1) (Pc.lo x1) (Pc.hi x1))) hS_i fN_ (.inr rfl) aV_ rfl rfl rfl (d_ (d_ Q_)) fun Hs1 hS1 => ?_))))))))
   refine e_ (w_ rfl (O_ (fun _ a b => ⟨Vw.sat.sub (a.perm (o_ (q_ i_) (o_ (q_ i_) aX_))), b⟩) (ab_ (by kernel_rfl) (b_ rfl ?_))))
   refine aP_ ((b3, .cells #[.int .i64 (Fc.kind (aF_ (Fc.a f) (Pc.r x1) (Pc.lo x1) (Pc.hi x1))), str (Fc.a (aF_ (Fc.a f) (Pc.r x1) (Pc.lo x1) (Pc.hi x1))), str (Fc.b (aF_ (Fc.a f) (Pc.r x1) (Pc.lo x1) (Pc.hi x1))), str (Fc.r (aF_ (Fc.a f) (Pc.r x1) (Pc.lo x1) (Pc.hi x1))), .int .i64 (Fc.lo (aF_ (Fc.a f) (Pc.r x1) (Pc.lo x1) (Pc.hi x1))), .int .i64 (Fc.hi (aF_ (Fc.a f) (Pc.r x1) (Pc.lo x1) (Pc.hi x1)))] 41 (0, 0)) :: ((b2, .cells (Pc.cells x1).toArray 47 (0, 0)) :: ((b1, .cells (Fc.cells f).toArray 41 (0, 0)) :: []))) (by kernel_rfl) ?_
   refine Z_ 1 [0, 1, 2, 3, 4] (by kernel_rfl) (fun _ a b => ⟨Vw.sat.sub (a.perm (o_ (q_ i_) (o_ (q_ i_) aX_))), b⟩) (n_ rfl (f_ rfl) rfl (n_ rfl (aq_ rfl) rfl (n_ rfl (l_ K_ rfl rfl rfl aU_) rfl (n_ rfl (ai_ bs_ rfl (fun v _ h => by exact h.1) rfl) rfl (n_ rfl (ae_ 0 V_ B_ rfl rfl rfl) rfl (Y_ (U_ 5 rfl (by kernel_rfl) (ba_ (first := []) (cap := E.caps) (E.emit (aF_ (Fc.a f) (Pc.r x1) (Pc.lo x1) (Pc.hi x1)) (Prod.fst (cw_ E.stp E.kof f (List.take i (lat pm (Ky.mk 8 [] (Fc.b f)))) (nw, fm))) ((aF_ (Fc.a f) (Pc.r x1) (Pc.lo x1) (Pc.hi x1)) :: (Prod.snd (cw_ E.stp E.kof f (List.take i (lat pm (Ky.mk 8 [] (Fc.b f)))) (nw, fm)))) Hs1 hS1) rfl rfl x_ (fun v _ h => by exact ⟨h.2.2.2.2.2.2.2.2.1, trivial⟩) rfl fun ⟨Hs2, hS2⟩ => ?_))))))))
   dsimp only
   refine e_ (w_ rfl (O_ (fun _ a b => ⟨Vw.sat.sub (a.perm (o_ (q_ i_) (o_ (q_ i_) aX_))), b⟩) (ab_ (by kernel_rfl) (b_ rfl (c_ (a_ (M_ rfl rfl rfl (aj_ (by omega) (by omega))) rfl (a_ (f_ rfl) rfl (e_ (w_ rfl ?_)))))))))
   exact aa_ ⟨(i + 1, Hs2), hlx1, (by rw [iW_ hx1]; dsimp only; first | (rw [if_pos (by assumption)]; exact hS2) | (rw [if_neg (by assumption)]; exact hS2))⟩ (by dsimp only; omega) ⟨rfl, rfl, rfl, rfl, rfl, trivial⟩ (o_ (q_ (d_ (d_ i_))) x_) (fun _ _ h => h)
  ·
   replace hr2 := of_decide_eq_true hr2
   refine v_ rfl (F_ (b_ rfl ?_))
   refine aP_ ((b3, .cells #[.int .i64 (Fc.kind (aF_ (Fc.a f) (Pc.r x1) (Pc.lo x1) (Pc.hi x1))), str (Fc.a (aF_ (Fc.a f) (Pc.r x1) (Pc.lo x1) (Pc.hi x1))), str (Fc.b (aF_ (Fc.a f) (Pc.r x1) (Pc.lo x1) (Pc.hi x1))), str (Fc.r (aF_ (Fc.a f) (Pc.r x1) (Pc.lo x1) (Pc.hi x1))), .int .i64 (Fc.lo (aF_ (Fc.a f) (Pc.r x1) (Pc.lo x1) (Pc.hi x1))), .int .i64 (Fc.hi (aF_ (Fc.a f) (Pc.r x1) (Pc.lo x1) (Pc.hi x1)))] 41 (0, 0)) :: ((b2, .cells (Pc.cells x1).toArray 47 (0, 0)) :: ((b1, .cells (Fc.cells f).toArray 41 (0, 0)) :: []))) (by kernel_rfl) ?_
   refine Z_ 1 [0, 1, 2, 3, 4] (by kernel_rfl) (fun _ a b => ⟨Vw.sat.sub (a.perm (o_ i_ (o_ i_ i_))), b⟩) (n_ rfl (f_ rfl) rfl (n_ rfl (aq_ rfl) rfl (n_ rfl (l_ K_ rfl rfl rfl aU_) rfl (n_ rfl (ai_ bs_ rfl (fun v _ h => by exact h.1) rfl) rfl (n_ rfl (ae_ 0 V_ B_ rfl rfl rfl) rfl (Y_ (U_ 5 rfl (by kernel_rfl) (ba_ (first := []) (cap := E.caps) (E.emit (aF_ (Fc.a f) (Pc.r x1) (Pc.lo x1) (Pc.hi x1)) (Prod.fst (cw_ E.stp E.kof f (List.take i (lat pm (Ky.mk 8 [] (Fc.b f)))) (nw, fm))) (Prod.snd (cw_ E.stp E.kof f (List.take i (lat pm (Ky.mk 8 [] (Fc.b f)))) (nw, fm))) Hs_i hS_i) rfl rfl (d_ (d_ Q_)) (fun v _ h => by exact ⟨h.2.2.2.2.2.2.2.2.1, trivial⟩) rfl fun ⟨Hs3, hS3⟩ => ?_))))))))
   dsimp only
   refine e_ (w_ rfl (O_ (fun _ a b => ⟨Vw.sat.sub (a.perm (o_ (q_ i_) (o_ (q_ i_) aX_))), b⟩) (ab_ (by kernel_rfl) (b_ rfl (c_ (a_ (M_ rfl rfl rfl (aj_ (by omega) (by omega))) rfl (a_ (f_ rfl) rfl (e_ (w_ rfl ?_)))))))))
   exact aa_ ⟨(i + 1, Hs3), hlx1, (by rw [iW_ hx1]; dsimp only; first | (rw [if_pos (by assumption)]; exact hS3) | (rw [if_neg (by assumption)]; exact hS3))⟩ (by dsimp only; omega) ⟨rfl, rfl, rfl, rfl, rfl, trivial⟩ (o_ (q_ (d_ (d_ i_))) x_) (fun _ _ h => h)
theorem mW_ (B : EngB) (E : Emt Tryz.prog 41) (A : EngA) (pm : List (Ky × Pc)) (x : Ix) (f : Fc) (nw fm : List Fc) (Hs : Hp) (hS : E.St nw fm Hs) (hpl : ∀ k, (lat pm k).length ≤ 1000000000) (hxl : ∀ k, (lat x.above k).length ≤ 1000000000 ∧ (lat x.under k).length ≤ 1000000000) (hyl : ∀ k, (lat x.frm k).length ≤ 1000000000 ∧ (lat x.into k).length ≤ 1000000000 ∧ (lat x.ranges k).length ≤ 1000000000 ∧ (lat x.firms k).length ≤ 1000000000) : Tri Tryz.prog 103 #[zp_ B.g 0, Fc.val f] Hs [gF B E, pF B pm A, aF B x A, uF B x A, oF B x A, iF B x A, rF B x A, sF B x A, E.ef] (fun _ : {H' : Hp // E.St (emits E.stp (ff_ pm x f) nw) fm H'} => .tuple #[]) (fun y => y.1) (fun _ => []) := by
 refine T_ Tryz.func103 rfl rfl Tryz.ntmps103 rfl fun v0 => ?_
 refine h_ (c_ (bh_ rfl rfl fun b1 => ?_))
 refine e_ (b_ rfl (h_ ?_))
 refine aE_ (by kernel_rfl) ?_
 refine Z_ 0 [0, 1, 2, 3, 4, 5, 6, 7, 8, 9] (by kernel_rfl) (fun _ a b => ⟨a, b⟩) (n_ rfl (f_ rfl) rfl (n_ rfl (aq_ rfl) rfl (n_ rfl (l_ K_ rfl rfl rfl dv_) rfl (n_ rfl (ai_ eb_ rfl (fun v _ h => by exact h.1) rfl) rfl (n_ rfl (l_ k_ rfl rfl rfl j_) rfl (n_ rfl (t_ 0 p_ rfl rfl rfl) rfl (n_ rfl (aL_ ep_ rfl rfl) rfl (n_ rfl (ct_ (k := (Ky.mk 4 [] (Fc.b f))) (adr := A.p) fM_ ci_ cP_ rfl rfl (fun v _ h => by exact h.2.1)) rfl (n_ rfl (ar_ P_ rfl) rfl ?_)))))))))
 refine n_ rfl (f_ rfl) rfl (Y_ (ab_ (by kernel_rfl) (b_ rfl (N_ ?_))))
 refine aB_ (ι := {y : Nat × Hp // y.1 ≤ List.length (lat pm (Ky.mk 4 [] (Fc.b f))) ∧ E.St (emits E.stp (List.flatMap (fun y => List.map (fun a => ak_ a (Pc.c y)) (lat x.into (Fc.a f, Pc.r y))) (List.take y.1 (lat pm (Ky.mk 4 [] (Fc.b f))))) nw) fm y.2}) (fun y => [(0, zp_ B.g 0), (3, zp_ b1 0), (15, .slice (Prod.fst (A.p (Ky.mk 4 [] (Fc.b f)))) (List.length (lat pm (Ky.mk 4 [] (Fc.b f)))) (Prod.snd (A.p (Ky.mk 4 [] (Fc.b f))))), (16, .int .i64 (List.length (lat pm (Ky.mk 4 [] (Fc.b f))) : Int)), (17, .int .i64 (y.1.1 : Int))]) (fun y => ((b1, .cells (Fc.cells f).toArray 41 (0, 0)) :: y.1.2)) (fun y => [gF B E, pF B pm A, aF B x A, uF B x A, oF B x A, iF B x A, rF B x A, sF B x A, E.ef]) (fun y => List.length (lat pm (Ky.mk 4 [] (Fc.b f))) - y.1.1) ⟨((0 : Nat), Hs), by simp, by exact hS⟩ ⟨rfl, rfl, rfl, rfl, rfl, trivial⟩ (o_ i_ aC_) (fun _ _ h => h) ?_
 rintro ⟨⟨i, Hs_i⟩, hi_i, hS_i⟩
 dsimp only at hi_i hS_i ⊢
 have hb_i := hpl (Ky.mk 4 [] (Fc.b f))
 refine h_ (c_ (y_ (ax_ rfl rfl) rfl fun r1 hr1 => ?_))
 refine e_ (b_ rfl (h_ ?_))
 cases r1
 ·
  replace hr1 := of_decide_eq_false hr1
  refine v_ rfl (as_ rfl (bk_ rfl ?_))
  exact de_ Tryz.results103 ⟨Hs_i, by unfold ff_; rw [List.take_of_length_le (by omega)] at hS_i; exact hS_i⟩ rfl Q_ (fun _ _ _ => trivial)
 ·
  replace hr1 := of_decide_eq_true hr1
  have hlx1 : i < List.length (lat pm (Ky.mk 4 [] (Fc.b f))) := by omega
  obtain ⟨x1, hx1⟩ : ∃ e0, (lat pm (Ky.mk 4 [] (Fc.b f)))[i]? = some e0 := ⟨_, List.getElem?_eq_getElem hlx1⟩
  have hmx1 : x1 ∈ (lat pm (Ky.mk 4 [] (Fc.b f))) := List.mem_of_getElem? hx1
  refine u_ rfl (F_ (b_ rfl (h_ (N_ (h_ (c_ (a_ (ad_ P_ R_ rfl rfl (fun v _ h => av_ (n := 10) Pc.cells_len (by decide) (by exact (bO_ h.2.1 (Ky.mk 4 [] (Fc.b f)))) hx1) (by omega) (by first | omega | (simp; done))) rfl (a_ (aJ_ (ad := (Prod.fst (A.p (Ky.mk 4 [] (Fc.b f))))) (us := Pc.cells x1) aK_ R_ rfl (fun v _ h => by exact (bO_ h.2.1 (Ky.mk 4 [] (Fc.b f)))) (Pc.cells_len _) (ag_ Pc.cells_len hx1)) rfl (ay_ bj_ rfl fun b2 => ?_)))))))))
  refine af_ 0 R_ rfl rfl rfl rfl rfl rfl (e_ (b_ rfl (h_ ?_)))
  refine aE_ (by kernel_rfl) ?_
  refine Z_ 0 [0, 1, 2, 3, 4, 5, 6, 7, 8, 9, 10, 11] (by kernel_rfl) (fun _ a b => ⟨a, b⟩) (n_ rfl (f_ rfl) rfl (n_ rfl (aq_ rfl) rfl (n_ rfl (l_ K_ rfl rfl rfl du_) rfl (n_ rfl (ai_ ea_ rfl (fun v _ h => by exact h.1) rfl) rfl (n_ rfl (l_ k_ rfl rfl rfl j_) rfl (n_ rfl (t_ 1 p_ rfl rfl rfl) rfl (n_ rfl (l_ m_ rfl rfl rfl j_) rfl (n_ rfl (t_ 0 p_ rfl rfl rfl) rfl (n_ rfl (aL_ eW_ rfl rfl) rfl ?_)))))))))
  refine n_ rfl (ct_ (k := ((Fc.a f), (Pc.r x1))) (adr := A.i) cU_ ch_ bG_ rfl rfl (fun v _ h => by exact h.2.2.2.2.2.1)) rfl (n_ rfl (ar_ D_ rfl) rfl (n_ rfl (f_ rfl) rfl (Y_ (ab_ (by kernel_rfl) (b_ rfl (N_ ?_))))))
  refine aB_ (ι := {y : Nat × Hp // y.1 ≤ List.length (lat x.into ((Fc.a f), (Pc.r x1))) ∧ E.St (emits E.stp (List.map (fun a => ak_ a (Pc.c x1)) (List.take y.1 (lat x.into ((Fc.a f), (Pc.r x1))))) (emits E.stp (List.flatMap (fun y => List.map (fun a => ak_ a (Pc.c y)) (lat x.into (Fc.a f, Pc.r y))) (List.take i (lat pm (Ky.mk 4 [] (Fc.b f))))) nw)) fm y.2}) (fun y => [(0, zp_ B.g 0), (3, zp_ b1 0), (15, .slice (Prod.fst (A.p (Ky.mk 4 [] (Fc.b f)))) (List.length (lat pm (Ky.mk 4 [] (Fc.b f)))) (Prod.snd (A.p (Ky.mk 4 [] (Fc.b f))))), (16, .int .i64 (List.length (lat pm (Ky.mk 4 [] (Fc.b f))) : Int)), (17, .int .i64 (i : Int)), (5, zp_ b2 0), (30, .slice (Prod.fst (A.i ((Fc.a f), (Pc.r x1)))) (List.length (lat x.into ((Fc.a f), (Pc.r x1)))) (Prod.snd (A.i ((Fc.a f), (Pc.r x1))))), (31, .int .i64 (List.length (lat x.into ((Fc.a f), (Pc.r x1))) : Int)), (32, .int .i64 (y.1.1 : Int))]) (fun y => ((b2, .cells (Pc.cells x1).toArray 47 (0, 0)) :: ((b1, .cells (Fc.cells f).toArray 41 (0, 0)) :: y.1.2))) (fun y => [gF B E, pF B pm A, aF B x A, uF B x A, oF B x A, iF B x A, rF B x A, sF B x A, E.ef]) (fun y => List.length (lat x.into ((Fc.a f), (Pc.r x1))) - y.1.1) ⟨((0 : Nat), Hs_i), by simp, by exact hS_i⟩ ⟨rfl, rfl, rfl, rfl, rfl, rfl, rfl, rfl, rfl, trivial⟩ (o_ i_ (o_ i_ aC_)) (fun _ _ h => h) ?_
  rintro ⟨⟨j, Hs_j⟩, hi_j, hS_j⟩
  dsimp only at hi_j hS_j ⊢
  have hb_j := (hyl ((Fc.a f), (Pc.r x1))).2.1
  refine h_ (c_ (y_ (ax_ rfl rfl) rfl fun r2 hr2 => ?_))
  refine e_ (b_ rfl (h_ ?_))
  cases r2
  ·
   replace hr2 := of_decide_eq_false hr2
   refine v_ rfl (as_ rfl (b_ rfl (c_ (a_ (M_ rfl rfl rfl (aj_ (by omega) (by omega))) rfl (a_ (f_ rfl) rfl (e_ (w_ rfl ?_)))))))
   exact aa_ ⟨(i + 1, Hs_j), hlx1, (by rw [fR_ hx1, aW_]; have e9 : List.take j (lat x.into (Fc.a f, Pc.r x1)) = (lat x.into (Fc.a f, Pc.r x1)) := List.take_of_length_le (by omega); rw [e9] at hS_j; exact hS_j)⟩ (by dsimp only; omega) ⟨rfl, rfl, rfl, rfl, rfl, trivial⟩ (o_ (d_ i_) Q_) (fun _ _ h => h)
  ·
   replace hr2 := of_decide_eq_true hr2
   have hlx2 : j < List.length (lat x.into ((Fc.a f), (Pc.r x1))) := by omega
   obtain ⟨x2, hx2⟩ : ∃ e0, (lat x.into ((Fc.a f), (Pc.r x1)))[j]? = some e0 := ⟨_, List.getElem?_eq_getElem hlx2⟩
   have hmx2 : x2 ∈ (lat x.into ((Fc.a f), (Pc.r x1))) := List.mem_of_getElem? hx2
   refine u_ rfl (F_ (b_ rfl (h_ (N_ (h_ (c_ (a_ (ad_ D_ j_ rfl rfl (fun v _ h => av_ (n := 1) am_ (by decide) (by exact (bO_ h.2.2.2.2.2.1 ((Fc.a f), (Pc.r x1)))) hx2) (by omega) (by first | omega | (simp; done))) rfl (a_ (aG_ (ad := (Prod.fst (A.i ((Fc.a f), (Pc.r x1))))) p_ rfl (fun v _ h => by exact (bO_ h.2.2.2.2.2.1 ((Fc.a f), (Pc.r x1)))) (ag_ am_ hx2 0 _ rfl)) rfl (a_ (g_ rfl) rfl ?_)))))))))
   refine e_ (b_ rfl ?_)
   refine aP_ ((b2, .cells (Pc.cells x1).toArray 47 (0, 0)) :: ((b1, .cells (Fc.cells f).toArray 41 (0, 0)) :: [])) (by kernel_rfl) ?_
   refine Z_ 2 [0, 1, 2, 3, 4, 5, 6] (by kernel_rfl) (fun _ a b => ⟨Vw.sat.sub (a.perm (o_ i_ i_)), b⟩) (n_ rfl (f_ rfl) rfl (n_ rfl (aq_ rfl) rfl (n_ rfl (l_ K_ rfl rfl rfl aU_) rfl (n_ rfl (ai_ bs_ rfl (fun v _ h => by exact h.1) rfl) rfl (n_ rfl (f_ rfl) rfl (n_ rfl (l_ m_ rfl rfl rfl j_) rfl (n_ rfl (t_ 0 p_ rfl rfl rfl) rfl (Y_ (U_ 7 rfl (by kernel_rfl) ?_)))))))))
   refine X_ (eU_ x2 (Pc.c x1)) rfl J_ (fun _ _ _ => by exact trivial) rfl fun _ => ?_
   refine e_ (w_ rfl (O_ (fun _ a b => ⟨Vw.sat.sub (a.perm (o_ i_ i_)), b⟩) (U_ 8 rfl (by kernel_rfl) (ba_ (first := []) (cap := E.caps) (E.emit (ak_ x2 (Pc.c x1)) (emits E.stp (List.map (fun a => ak_ a (Pc.c x1)) (List.take j (lat x.into ((Fc.a f), (Pc.r x1))))) (emits E.stp (List.flatMap (fun y => List.map (fun a => ak_ a (Pc.c y)) (lat x.into (Fc.a f, Pc.r y))) (List.take i (lat pm (Ky.mk 4 [] (Fc.b f))))) nw)) fm Hs_j hS_j) rfl rfl (d_ Q_) (fun v _ h => by exact ⟨h.2.2.2.2.2.2.2.2.1, trivial⟩) rfl fun ⟨Hs1, hS1⟩ => ?_))))
   dsimp only
   refine e_ (w_ rfl (O_ (fun _ a b => ⟨Vw.sat.sub (a.perm (o_ (q_ i_) aX_)), b⟩) (ab_ (by kernel_rfl) (b_ rfl (c_ (a_ (M_ rfl rfl rfl (aj_ (by omega) (by omega))) rfl (a_ (f_ rfl) rfl (e_ (w_ rfl ?_)))))))))
   exact aa_ ⟨(j + 1, Hs1), hlx2, (by rw [eu_ hx2, aW_]; exact hS1)⟩ (by dsimp only; omega) ⟨rfl, rfl, rfl, rfl, rfl, rfl, rfl, rfl, rfl, trivial⟩ (o_ (q_ i_) (o_ aX_ aC_)) (fun _ _ h => h)
theorem mV_ (B : EngB) (E : Emt Tryz.prog 41) (A : EngA) (pm : List (Ky × Pc)) (x : Ix) (f : Fc) (nw fm : List Fc) (Hs : Hp) (hS : E.St nw fm Hs) (hpl : ∀ k, (lat pm k).length ≤ 1000000000) (hxl : ∀ k, (lat x.above k).length ≤ 1000000000 ∧ (lat x.under k).length ≤ 1000000000) (hyl : ∀ k, (lat x.frm k).length ≤ 1000000000 ∧ (lat x.into k).length ≤ 1000000000 ∧ (lat x.ranges k).length ≤ 1000000000 ∧ (lat x.firms k).length ≤ 1000000000) : Tri Tryz.prog 108 #[zp_ B.g 0, Fc.val f] Hs [gF B E, pF B pm A, aF B x A, uF B x A, oF B x A, iF B x A, rF B x A, sF B x A, E.ef] (fun _ : {H' : Hp // E.St (emits E.stp (fe_ pm x f) nw) fm H'} => .tuple #[]) (fun y => y.1) (fun _ => []) := by
 refine T_ Tryz.func108 rfl rfl Tryz.ntmps108 rfl fun v0 => ?_
 refine h_ (c_ (bh_ rfl rfl fun b1 => ?_))
 refine e_ (b_ rfl (h_ ?_))
 refine aE_ (by kernel_rfl) ?_
 refine Z_ 0 [0, 1, 2, 3, 4, 5, 6, 7, 8] (by kernel_rfl) (fun _ a b => ⟨a, b⟩) (n_ rfl (f_ rfl) rfl (n_ rfl (aq_ rfl) rfl (n_ rfl (l_ K_ rfl rfl rfl hC_) rfl (n_ rfl (ai_ mR_ rfl (fun v _ h => by exact h.1) rfl) rfl (n_ rfl (l_ k_ rfl rfl rfl j_) rfl (n_ rfl (t_ 0 p_ rfl rfl rfl) rfl (n_ rfl (ct_ (k := (Fc.b f)) (adr := A.a) fL_ cx_ bG_ rfl rfl (fun v _ h => by exact h.2.2.1)) rfl (n_ rfl (ar_ D_ rfl) rfl (n_ rfl (f_ rfl) rfl ?_)))))))))
 refine Y_ (ab_ (by kernel_rfl) (b_ rfl (N_ ?_)))
 refine aB_ (ι := {y : Nat × Hp // y.1 ≤ List.length (lat x.above (Fc.b f)) ∧ E.St (emits E.stp (List.flatMap (fun y => List.map (fun a => ak_ (Fc.a f) (Pc.c a)) (lat pm (Ky.mk 4 (Fc.r f) y))) (List.take y.1 (lat x.above (Fc.b f)))) nw) fm y.2}) (fun y => [(0, zp_ B.g 0), (3, zp_ b1 0), (14, .slice (Prod.fst (A.a (Fc.b f))) (List.length (lat x.above (Fc.b f))) (Prod.snd (A.a (Fc.b f)))), (15, .int .i64 (List.length (lat x.above (Fc.b f)) : Int)), (16, .int .i64 (y.1.1 : Int))]) (fun y => ((b1, .cells (Fc.cells f).toArray 41 (0, 0)) :: y.1.2)) (fun y => [gF B E, pF B pm A, aF B x A, uF B x A, oF B x A, iF B x A, rF B x A, sF B x A, E.ef]) (fun y => List.length (lat x.above (Fc.b f)) - y.1.1) ⟨((0 : Nat), Hs), by simp, by exact hS⟩ ⟨rfl, rfl, rfl, rfl, rfl, trivial⟩ (o_ i_ aC_) (fun _ _ h => h) ?_
 rintro ⟨⟨i, Hs_i⟩, hi_i, hS_i⟩
 dsimp only at hi_i hS_i ⊢
 have hb_i := (hxl (Fc.b f)).1
 refine h_ (c_ (y_ (ax_ rfl rfl) rfl fun r1 hr1 => ?_))
 refine e_ (b_ rfl (h_ ?_))
 cases r1
 ·
  replace hr1 := of_decide_eq_false hr1
  refine v_ rfl (as_ rfl (bk_ rfl ?_))
  exact de_ Tryz.results108 ⟨Hs_i, by unfold fe_; rw [List.take_of_length_le (by omega)] at hS_i; exact hS_i⟩ rfl Q_ (fun _ _ _ => trivial)
 ·
  replace hr1 := of_decide_eq_true hr1
  have hlx1 : i < List.length (lat x.above (Fc.b f)) := by omega
  obtain ⟨x1, hx1⟩ : ∃ e0, (lat x.above (Fc.b f))[i]? = some e0 := ⟨_, List.getElem?_eq_getElem hlx1⟩
  have hmx1 : x1 ∈ (lat x.above (Fc.b f)) := List.mem_of_getElem? hx1
  refine u_ rfl (F_ (b_ rfl (h_ (N_ (h_ (c_ (a_ (ad_ D_ j_ rfl rfl (fun v _ h => av_ (n := 1) am_ (by decide) (by exact (bO_ h.2.2.1 (Fc.b f))) hx1) (by omega) (by first | omega | (simp; done))) rfl (a_ (aG_ (ad := (Prod.fst (A.a (Fc.b f)))) p_ rfl (fun v _ h => by exact (bO_ h.2.2.1 (Fc.b f))) (ag_ am_ hx1 0 _ rfl)) rfl (a_ (g_ rfl) rfl ?_)))))))))
  refine e_ (b_ rfl (h_ ?_))
  refine aE_ (by kernel_rfl) ?_
  refine Z_ 0 [0, 1, 2, 3, 4, 5, 6, 7, 8, 9, 10] (by kernel_rfl) (fun _ a b => ⟨a, b⟩) (n_ rfl (f_ rfl) rfl (n_ rfl (aq_ rfl) rfl (n_ rfl (l_ K_ rfl rfl rfl dv_) rfl (n_ rfl (ai_ eb_ rfl (fun v _ h => by exact h.1) rfl) rfl (n_ rfl (l_ k_ rfl rfl rfl j_) rfl (n_ rfl (t_ 0 p_ rfl rfl rfl) rfl (n_ rfl (f_ rfl) rfl (n_ rfl (aL_ ep_ rfl rfl) rfl (n_ rfl (ct_ (k := (Ky.mk 4 (Fc.r f) x1)) (adr := A.p) fM_ ci_ cP_ rfl rfl (fun v _ h => by exact h.2.1)) rfl ?_)))))))))
  refine n_ rfl (ar_ P_ rfl) rfl (n_ rfl (f_ rfl) rfl (Y_ (ab_ (by kernel_rfl) (b_ rfl (N_ ?_)))))
  refine aB_ (ι := {y : Nat × Hp // y.1 ≤ List.length (lat pm (Ky.mk 4 (Fc.r f) x1)) ∧ E.St (emits E.stp (List.map (fun a => ak_ (Fc.a f) (Pc.c a)) (List.take y.1 (lat pm (Ky.mk 4 (Fc.r f) x1)))) (emits E.stp (List.flatMap (fun y => List.map (fun a => ak_ (Fc.a f) (Pc.c a)) (lat pm (Ky.mk 4 (Fc.r f) y))) (List.take i (lat x.above (Fc.b f)))) nw)) fm y.2}) (fun y => [(0, zp_ B.g 0), (3, zp_ b1 0), (14, .slice (Prod.fst (A.a (Fc.b f))) (List.length (lat x.above (Fc.b f))) (Prod.snd (A.a (Fc.b f)))), (15, .int .i64 (List.length (lat x.above (Fc.b f)) : Int)), (16, .int .i64 (i : Int)), (28, .slice (Prod.fst (A.p (Ky.mk 4 (Fc.r f) x1))) (List.length (lat pm (Ky.mk 4 (Fc.r f) x1))) (Prod.snd (A.p (Ky.mk 4 (Fc.r f) x1)))), (29, .int .i64 (List.length (lat pm (Ky.mk 4 (Fc.r f) x1)) : Int)), (30, .int .i64 (y.1.1 : Int))]) (fun y => ((b1, .cells (Fc.cells f).toArray 41 (0, 0)) :: y.1.2)) (fun y => [gF B E, pF B pm A, aF B x A, uF B x A, oF B x A, iF B x A, rF B x A, sF B x A, E.ef]) (fun y => List.length (lat pm (Ky.mk 4 (Fc.r f) x1)) - y.1.1) ⟨((0 : Nat), Hs_i), by simp, by exact hS_i⟩ ⟨rfl, rfl, rfl, rfl, rfl, rfl, rfl, rfl, trivial⟩ (o_ i_ aC_) (fun _ _ h => h) ?_
  rintro ⟨⟨j, Hs_j⟩, hi_j, hS_j⟩
  dsimp only at hi_j hS_j ⊢
  have hb_j := hpl (Ky.mk 4 (Fc.r f) x1)
  refine h_ (c_ (y_ (ax_ rfl rfl) rfl fun r2 hr2 => ?_))
  refine e_ (b_ rfl (h_ ?_))
  cases r2
  ·
   replace hr2 := of_decide_eq_false hr2
   refine v_ rfl (as_ rfl (b_ rfl (c_ (a_ (M_ rfl rfl rfl (aj_ (by omega) (by omega))) rfl (a_ (f_ rfl) rfl (e_ (w_ rfl ?_)))))))
   exact aa_ ⟨(i + 1, Hs_j), hlx1, (by rw [fR_ hx1, aW_]; have e9 : List.take j (lat pm (Ky.mk 4 (Fc.r f) x1)) = (lat pm (Ky.mk 4 (Fc.r f) x1)) := List.take_of_length_le (by omega); rw [e9] at hS_j; exact hS_j)⟩ (by dsimp only; omega) ⟨rfl, rfl, rfl, rfl, rfl, trivial⟩ (o_ i_ aC_) (fun _ _ h => h)
  ·
   replace hr2 := of_decide_eq_true hr2
   have hlx2 : j < List.length (lat pm (Ky.mk 4 (Fc.r f) x1)) := by omega
   obtain ⟨x2, hx2⟩ : ∃ e0, (lat pm (Ky.mk 4 (Fc.r f) x1))[j]? = some e0 := ⟨_, List.getElem?_eq_getElem hlx2⟩
   have hmx2 : x2 ∈ (lat pm (Ky.mk 4 (Fc.r f) x1)) := List.mem_of_getElem? hx2
   refine u_ rfl (F_ (b_ rfl (h_ (N_ (h_ (c_ (a_ (ad_ P_ R_ rfl rfl (fun v _ h => av_ (n := 10) Pc.cells_len (by decide) (by exact (bO_ h.2.1 (Ky.mk 4 (Fc.r f) x1))) hx2) (by omega) (by first | omega | (simp; done))) rfl (a_ (aJ_ (ad := (Prod.fst (A.p (Ky.mk 4 (Fc.r f) x1)))) (us := Pc.cells x2) aK_ R_ rfl (fun v _ h => by exact (bO_ h.2.1 (Ky.mk 4 (Fc.r f) x1))) (Pc.cells_len _) (ag_ Pc.cells_len hx2)) rfl (ay_ bj_ rfl fun b2 => ?_)))))))))
   refine af_ 0 R_ rfl rfl rfl rfl rfl rfl (e_ (b_ rfl ?_))
   refine aP_ ((b2, .cells (Pc.cells x2).toArray 47 (0, 0)) :: ((b1, .cells (Fc.cells f).toArray 41 (0, 0)) :: [])) (by kernel_rfl) ?_
   refine Z_ 2 [0, 1, 2, 3, 4, 5, 6, 7] (by kernel_rfl) (fun _ a b => ⟨Vw.sat.sub (a.perm (o_ i_ i_)), b⟩) (n_ rfl (f_ rfl) rfl (n_ rfl (aq_ rfl) rfl (n_ rfl (l_ K_ rfl rfl rfl aU_) rfl (n_ rfl (ai_ bs_ rfl (fun v _ h => by exact h.1) rfl) rfl (n_ rfl (l_ k_ rfl rfl rfl j_) rfl (n_ rfl (t_ 1 p_ rfl rfl rfl) rfl (n_ rfl (l_ m_ rfl rfl rfl j_) rfl (n_ rfl (t_ 0 p_ rfl rfl rfl) rfl (Y_ ?_)))))))))
   refine U_ 8 rfl (by kernel_rfl) (X_ (eU_ (Fc.a f) (Pc.c x2)) rfl J_ (fun _ _ _ => by exact trivial) rfl fun _ => ?_)
   refine e_ (w_ rfl (O_ (fun _ a b => ⟨Vw.sat.sub (a.perm (o_ i_ i_)), b⟩) (U_ 9 rfl (by kernel_rfl) (ba_ (first := []) (cap := E.caps) (E.emit (ak_ (Fc.a f) (Pc.c x2)) (emits E.stp (List.map (fun a => ak_ (Fc.a f) (Pc.c a)) (List.take j (lat pm (Ky.mk 4 (Fc.r f) x1)))) (emits E.stp (List.flatMap (fun y => List.map (fun a => ak_ (Fc.a f) (Pc.c a)) (lat pm (Ky.mk 4 (Fc.r f) y))) (List.take i (lat x.above (Fc.b f)))) nw)) fm Hs_j hS_j) rfl rfl (d_ Q_) (fun v _ h => by exact ⟨h.2.2.2.2.2.2.2.2.1, trivial⟩) rfl fun ⟨Hs1, hS1⟩ => ?_))))
   dsimp only
   refine e_ (w_ rfl (O_ (fun _ a b => ⟨Vw.sat.sub (a.perm (o_ (q_ i_) aX_)), b⟩) (ab_ (by kernel_rfl) (b_ rfl (c_ (a_ (M_ rfl rfl rfl (aj_ (by omega) (by omega))) rfl (a_ (f_ rfl) rfl (e_ (w_ rfl ?_)))))))))
   exact aa_ ⟨(j + 1, Hs1), hlx2, (by rw [eu_ hx2, aW_]; exact hS1)⟩ (by dsimp only; omega) ⟨rfl, rfl, rfl, rfl, rfl, rfl, rfl, rfl, trivial⟩ (o_ (q_ (d_ i_)) x_) (fun _ _ h => h)
theorem qY_ (B : EngB) (E : Emt Tryz.prog 41) (A : EngA) (pm : List (Ky × Pc)) (x : Ix) (f : Fc) (nw fm : List Fc) (Hs : Hp) (hS : E.St nw fm Hs) (hpl : ∀ k, (lat pm k).length ≤ 1000000000) (hxl : ∀ k, (lat x.above k).length ≤ 1000000000 ∧ (lat x.under k).length ≤ 1000000000) (hyl : ∀ k, (lat x.frm k).length ≤ 1000000000 ∧ (lat x.into k).length ≤ 1000000000 ∧ (lat x.ranges k).length ≤ 1000000000 ∧ (lat x.firms k).length ≤ 1000000000) : Tri Tryz.prog 107 #[zp_ B.g 0, Fc.val f] Hs [gF B E, pF B pm A, aF B x A, uF B x A, oF B x A, iF B x A, rF B x A, sF B x A, E.ef] (fun _ : {H' : Hp // E.St (emits E.stp (fa_ pm x f ++ gl_ pm x f) nw) fm H'} => .tuple #[]) (fun y => y.1) (fun _ => []) := by
 refine T_ Tryz.func107 rfl rfl Tryz.ntmps107 rfl fun v0 => ?_
 refine h_ (c_ (bh_ rfl rfl fun b1 => ?_))
 refine e_ (b_ rfl (h_ (h_ ?_)))
 refine aE_ (by kernel_rfl) ?_
 refine Z_ 0 [0, 1, 2, 3, 4, 5, 6, 7, 8, 9] (by kernel_rfl) (fun _ a b => ⟨a, b⟩) (n_ rfl (f_ rfl) rfl (n_ rfl (aq_ rfl) rfl (n_ rfl (l_ K_ rfl rfl rfl dv_) rfl (n_ rfl (ai_ eb_ rfl (fun v _ h => by exact h.1) rfl) rfl (n_ rfl (l_ k_ rfl rfl rfl j_) rfl (n_ rfl (t_ 0 p_ rfl rfl rfl) rfl (n_ rfl (aL_ ep_ rfl rfl) rfl (n_ rfl (ct_ (k := (Ky.mk 6 (Fc.r f) [])) (adr := A.p) fM_ ci_ cP_ rfl rfl (fun v _ h => by exact h.2.1)) rfl (n_ rfl (ar_ P_ rfl) rfl ?_)))))))))
 refine n_ rfl (f_ rfl) rfl (Y_ (ab_ (by kernel_rfl) (b_ rfl (N_ ?_))))
 refine aB_ (ι := {y : Nat × Hp // y.1 ≤ List.length (lat pm (Ky.mk 6 (Fc.r f) [])) ∧ E.St (emits E.stp (List.flatMap (fun y => List.map (fun a => au_ (Fc.a f) (Pc.t y) a) (lat x.frm (Fc.b f, Pc.s y))) (List.take y.1 (lat pm (Ky.mk 6 (Fc.r f) [])))) nw) fm y.2}) (fun y => [(0, zp_ B.g 0), (3, zp_ b1 0), (19, .slice (Prod.fst (A.p (Ky.mk 6 (Fc.r f) []))) (List.length (lat pm (Ky.mk 6 (Fc.r f) []))) (Prod.snd (A.p (Ky.mk 6 (Fc.r f) [])))), (20, .int .i64 (List.length (lat pm (Ky.mk 6 (Fc.r f) [])) : Int)), (21, .int .i64 (y.1.1 : Int))]) (fun y => ((b1, .cells (Fc.cells f).toArray 41 (0, 0)) :: y.1.2)) (fun y => [gF B E, pF B pm A, aF B x A, uF B x A, oF B x A, iF B x A, rF B x A, sF B x A, E.ef]) (fun y => List.length (lat pm (Ky.mk 6 (Fc.r f) [])) - y.1.1) ⟨((0 : Nat), Hs), by simp, by exact hS⟩ ⟨rfl, rfl, rfl, rfl, rfl, trivial⟩ (o_ i_ aC_) (fun _ _ h => h) ?_
 rintro ⟨⟨i, Hs_i⟩, hi_i, hS_i⟩
 dsimp only at hi_i hS_i ⊢
 have hb_i := hpl (Ky.mk 6 (Fc.r f) [])
 refine h_ (c_ (y_ (ax_ rfl rfl) rfl fun r1 hr1 => ?_))
 refine e_ (b_ rfl (h_ ?_))
 cases r1
 ·
  replace hr1 := of_decide_eq_false hr1
  refine v_ rfl (as_ rfl (b_ rfl (h_ ?_)))
  refine aE_ (by kernel_rfl) ?_
  refine Z_ 0 [0, 1, 2, 3, 4, 5, 6, 7, 8, 9] (by kernel_rfl) (fun _ a b => ⟨a, b⟩) (n_ rfl (f_ rfl) rfl (n_ rfl (aq_ rfl) rfl (n_ rfl (l_ K_ rfl rfl rfl dv_) rfl (n_ rfl (ai_ eb_ rfl (fun v _ h => by exact h.1) rfl) rfl (n_ rfl (l_ k_ rfl rfl rfl j_) rfl (n_ rfl (t_ 0 p_ rfl rfl rfl) rfl (n_ rfl (aL_ ep_ rfl rfl) rfl (n_ rfl (ct_ (k := (Ky.mk 6 [] (Fc.r f))) (adr := A.p) fM_ ci_ cP_ rfl rfl (fun v _ h => by exact h.2.1)) rfl (n_ rfl (ar_ P_ rfl) rfl ?_)))))))))
  refine n_ rfl (f_ rfl) rfl (Y_ (ab_ (by kernel_rfl) (b_ rfl (N_ ?_))))
  refine aB_ (ι := {y : Nat × Hp // y.1 ≤ List.length (lat pm (Ky.mk 6 [] (Fc.r f))) ∧ E.St (emits E.stp (List.flatMap (fun y => List.map (fun a => au_ a (Pc.t y) (Fc.b f)) (lat x.into (Fc.a f, Pc.r y))) (List.take y.1 (lat pm (Ky.mk 6 [] (Fc.r f))))) (emits E.stp (fa_ pm x f) nw)) fm y.2}) (fun y => [(0, zp_ B.g 0), (3, zp_ b1 0), (19, .slice (Prod.fst (A.p (Ky.mk 6 (Fc.r f) []))) (List.length (lat pm (Ky.mk 6 (Fc.r f) []))) (Prod.snd (A.p (Ky.mk 6 (Fc.r f) [])))), (20, .int .i64 (List.length (lat pm (Ky.mk 6 (Fc.r f) [])) : Int)), (21, .int .i64 (i : Int)), (60, .slice (Prod.fst (A.p (Ky.mk 6 [] (Fc.r f)))) (List.length (lat pm (Ky.mk 6 [] (Fc.r f)))) (Prod.snd (A.p (Ky.mk 6 [] (Fc.r f))))), (61, .int .i64 (List.length (lat pm (Ky.mk 6 [] (Fc.r f))) : Int)), (62, .int .i64 (y.1.1 : Int))]) (fun y => ((b1, .cells (Fc.cells f).toArray 41 (0, 0)) :: y.1.2)) (fun y => [gF B E, pF B pm A, aF B x A, uF B x A, oF B x A, iF B x A, rF B x A, sF B x A, E.ef]) (fun y => List.length (lat pm (Ky.mk 6 [] (Fc.r f))) - y.1.1) ⟨((0 : Nat), Hs_i), by simp, by have e9 : List.take i (lat pm (Ky.mk 6 (Fc.r f) [])) = (lat pm (Ky.mk 6 (Fc.r f) [])) := List.take_of_length_le (by omega); rw [e9] at hS_i; exact hS_i⟩ ⟨rfl, rfl, rfl, rfl, rfl, rfl, rfl, rfl, trivial⟩ (o_ i_ aC_) (fun _ _ h => h) ?_
  rintro ⟨⟨k, Hs_k⟩, hi_k, hS_k⟩
  dsimp only at hi_k hS_k ⊢
  have hb_k := hpl (Ky.mk 6 [] (Fc.r f))
  refine h_ (c_ (y_ (ax_ rfl rfl) rfl fun r2 hr2 => ?_))
  refine e_ (b_ rfl (h_ ?_))
  cases r2
  ·
   replace hr2 := of_decide_eq_false hr2
   refine v_ rfl (as_ rfl (bk_ rfl ?_))
   exact de_ Tryz.results107 ⟨Hs_k, by rw [aW_]; unfold gl_; have e8 : List.take k (lat pm (Ky.mk 6 [] (Fc.r f))) = lat pm (Ky.mk 6 [] (Fc.r f)) := List.take_of_length_le (by omega); rw [e8] at hS_k; exact hS_k⟩ rfl Q_ (fun _ _ _ => trivial)
  ·
   replace hr2 := of_decide_eq_true hr2
   have hlx3 : k < List.length (lat pm (Ky.mk 6 [] (Fc.r f))) := by omega
   obtain ⟨x3, hx3⟩ : ∃ e0, (lat pm (Ky.mk 6 [] (Fc.r f)))[k]? = some e0 := ⟨_, List.getElem?_eq_getElem hlx3⟩
   have hmx3 : x3 ∈ (lat pm (Ky.mk 6 [] (Fc.r f))) := List.mem_of_getElem? hx3
   refine u_ rfl (F_ (b_ rfl (h_ (N_ (h_ (c_ (a_ (ad_ P_ R_ rfl rfl (fun v _ h => av_ (n := 10) Pc.cells_len (by decide) (by exact (bO_ h.2.1 (Ky.mk 6 [] (Fc.r f)))) hx3) (by omega) (by first | omega | (simp; done))) rfl (a_ (aJ_ (ad := (Prod.fst (A.p (Ky.mk 6 [] (Fc.r f))))) (us := Pc.cells x3) aK_ R_ rfl (fun v _ h => by exact (bO_ h.2.1 (Ky.mk 6 [] (Fc.r f)))) (Pc.cells_len _) (ag_ Pc.cells_len hx3)) rfl (ay_ bj_ rfl fun b2 => ?_)))))))))
   refine af_ 0 R_ rfl rfl rfl rfl rfl rfl (e_ (b_ rfl (h_ ?_)))
   refine aE_ (by kernel_rfl) ?_
   refine Z_ 0 [0, 1, 2, 3, 4, 5, 6, 7, 8, 9, 10, 11] (by kernel_rfl) (fun _ a b => ⟨a, b⟩) (n_ rfl (f_ rfl) rfl (n_ rfl (aq_ rfl) rfl (n_ rfl (l_ K_ rfl rfl rfl du_) rfl (n_ rfl (ai_ ea_ rfl (fun v _ h => by exact h.1) rfl) rfl (n_ rfl (l_ k_ rfl rfl rfl j_) rfl (n_ rfl (t_ 1 p_ rfl rfl rfl) rfl (n_ rfl (l_ m_ rfl rfl rfl j_) rfl (n_ rfl (t_ 0 p_ rfl rfl rfl) rfl (n_ rfl (aL_ eW_ rfl rfl) rfl ?_)))))))))
   refine n_ rfl (ct_ (k := ((Fc.a f), (Pc.r x3))) (adr := A.i) cU_ ch_ bG_ rfl rfl (fun v _ h => by exact h.2.2.2.2.2.1)) rfl (n_ rfl (ar_ D_ rfl) rfl (n_ rfl (f_ rfl) rfl (Y_ (ab_ (by kernel_rfl) (b_ rfl (N_ ?_))))))
   refine aB_ (ι := {y : Nat × Hp // y.1 ≤ List.length (lat x.into ((Fc.a f), (Pc.r x3))) ∧ E.St (emits E.stp (List.map (fun a => au_ a (Pc.t x3) (Fc.b f)) (List.take y.1 (lat x.into ((Fc.a f), (Pc.r x3))))) (emits E.stp (List.flatMap (fun y => List.map (fun a => au_ a (Pc.t y) (Fc.b f)) (lat x.into (Fc.a f, Pc.r y))) (List.take k (lat pm (Ky.mk 6 [] (Fc.r f))))) (emits E.stp (fa_ pm x f) nw))) fm y.2}) (fun y => [(0, zp_ B.g 0), (3, zp_ b1 0), (19, .slice (Prod.fst (A.p (Ky.mk 6 (Fc.r f) []))) (List.length (lat pm (Ky.mk 6 (Fc.r f) []))) (Prod.snd (A.p (Ky.mk 6 (Fc.r f) [])))), (20, .int .i64 (List.length (lat pm (Ky.mk 6 (Fc.r f) [])) : Int)), (21, .int .i64 (i : Int)), (60, .slice (Prod.fst (A.p (Ky.mk 6 [] (Fc.r f)))) (List.length (lat pm (Ky.mk 6 [] (Fc.r f)))) (Prod.snd (A.p (Ky.mk 6 [] (Fc.r f))))), (61, .int .i64 (List.length (lat pm (Ky.mk 6 [] (Fc.r f))) : Int)), (62, .int .i64 (k : Int)), (9, zp_ b2 0), (75, .slice (Prod.fst (A.i ((Fc.a f), (Pc.r x3)))) (List.length (lat x.into ((Fc.a f), (Pc.r x3)))) (Prod.snd (A.i ((Fc.a f), (Pc.r x3))))), (76, .int .i64 (List.length (lat x.into ((Fc.a f), (Pc.r x3))) : Int)), (77, .int .i64 (y.1.1 : Int))]) (fun y => ((b2, .cells (Pc.cells x3).toArray 47 (0, 0)) :: ((b1, .cells (Fc.cells f).toArray 41 (0, 0)) :: y.1.2))) (fun y => [gF B E, pF B pm A, aF B x A, uF B x A, oF B x A, iF B x A, rF B x A, sF B x A, E.ef]) (fun y => List.length (lat x.into ((Fc.a f), (Pc.r x3))) - y.1.1) ⟨((0 : Nat), Hs_k), by simp, by exact hS_k⟩ ⟨rfl, rfl, rfl, rfl, rfl, rfl, rfl, rfl, rfl, rfl, rfl, rfl, trivial⟩ (o_ i_ (o_ i_ aC_)) (fun _ _ h => h) ?_
   rintro ⟨⟨l, Hs_l⟩, hi_l, hS_l⟩
   dsimp only at hi_l hS_l ⊢
   have hb_l := (hyl ((Fc.a f), (Pc.r x3))).2.1
   refine h_ (c_ (y_ (ax_ rfl rfl) rfl fun r3 hr3 => ?_))
   refine e_ (b_ rfl (h_ ?_))
   cases r3
   ·
    replace hr3 := of_decide_eq_false hr3
    refine v_ rfl (as_ rfl (b_ rfl (c_ (a_ (M_ rfl rfl rfl (aj_ (by omega) (by omega))) rfl (a_ (f_ rfl) rfl (e_ (w_ rfl ?_)))))))
    exact aa_ ⟨(k + 1, Hs_l), hlx3, (by rw [fR_ hx3, aW_]; have e9 : List.take l (lat x.into (Fc.a f, Pc.r x3)) = (lat x.into (Fc.a f, Pc.r x3)) := List.take_of_length_le (by omega); rw [e9] at hS_l; exact hS_l)⟩ (by dsimp only; omega) ⟨rfl, rfl, rfl, rfl, rfl, rfl, rfl, rfl, trivial⟩ (o_ (d_ i_) Q_) (fun _ _ h => h)
   ·
    replace hr3 := of_decide_eq_true hr3
    have hlx4 : l < List.length (lat x.into ((Fc.a f), (Pc.r x3))) := by omega
    obtain ⟨x4, hx4⟩ : ∃ e0, (lat x.into ((Fc.a f), (Pc.r x3)))[l]? = some e0 := ⟨_, List.getElem?_eq_getElem hlx4⟩
    have hmx4 : x4 ∈ (lat x.into ((Fc.a f), (Pc.r x3))) := List.mem_of_getElem? hx4
    refine u_ rfl (F_ (b_ rfl (h_ (N_ (h_ (c_ (a_ (ad_ D_ j_ rfl rfl (fun v _ h => av_ (n := 1) am_ (by decide) (by exact (bO_ h.2.2.2.2.2.1 ((Fc.a f), (Pc.r x3)))) hx4) (by omega) (by first | omega | (simp; done))) rfl (a_ (aG_ (ad := (Prod.fst (A.i ((Fc.a f), (Pc.r x3))))) p_ rfl (fun v _ h => by exact (bO_ h.2.2.2.2.2.1 ((Fc.a f), (Pc.r x3)))) (ag_ am_ hx4 0 _ rfl)) rfl (a_ (g_ rfl) rfl ?_)))))))))
    refine e_ (b_ rfl ?_)
    refine aP_ ((b2, .cells (Pc.cells x3).toArray 47 (0, 0)) :: ((b1, .cells (Fc.cells f).toArray 41 (0, 0)) :: [])) (by kernel_rfl) ?_
    refine Z_ 2 [0, 1, 2, 3, 4, 5, 6, 7, 8] (by kernel_rfl) (fun _ a b => ⟨Vw.sat.sub (a.perm (o_ i_ i_)), b⟩) (n_ rfl (f_ rfl) rfl (n_ rfl (aq_ rfl) rfl (n_ rfl (l_ K_ rfl rfl rfl aU_) rfl (n_ rfl (ai_ bs_ rfl (fun v _ h => by exact h.1) rfl) rfl (n_ rfl (f_ rfl) rfl (n_ rfl (l_ m_ rfl rfl rfl j_) rfl (n_ rfl (t_ 0 p_ rfl rfl rfl) rfl (n_ rfl (l_ k_ rfl rfl rfl j_) rfl (n_ rfl (t_ 1 p_ rfl rfl rfl) rfl ?_)))))))))
    refine Y_ (U_ 9 rfl (by kernel_rfl) (X_ (il_ x4 (Pc.t x3) (Fc.b f)) rfl J_ (fun _ _ _ => by exact trivial) rfl fun _ => ?_))
    refine e_ (w_ rfl (O_ (fun _ a b => ⟨Vw.sat.sub (a.perm (o_ i_ i_)), b⟩) (U_ 10 rfl (by kernel_rfl) (ba_ (first := []) (cap := E.caps) (E.emit (au_ x4 (Pc.t x3) (Fc.b f)) (emits E.stp (List.map (fun a => au_ a (Pc.t x3) (Fc.b f)) (List.take l (lat x.into ((Fc.a f), (Pc.r x3))))) (emits E.stp (List.flatMap (fun y => List.map (fun a => au_ a (Pc.t y) (Fc.b f)) (lat x.into (Fc.a f, Pc.r y))) (List.take k (lat pm (Ky.mk 6 [] (Fc.r f))))) (emits E.stp (fa_ pm x f) nw))) fm Hs_l hS_l) rfl rfl (d_ Q_) (fun v _ h => by exact ⟨h.2.2.2.2.2.2.2.2.1, trivial⟩) rfl fun ⟨Hs1, hS1⟩ => ?_))))
    dsimp only
    refine e_ (w_ rfl (O_ (fun _ a b => ⟨Vw.sat.sub (a.perm (o_ (q_ i_) aX_)), b⟩) (ab_ (by kernel_rfl) (b_ rfl (c_ (a_ (M_ rfl rfl rfl (aj_ (by omega) (by omega))) rfl (a_ (f_ rfl) rfl (e_ (w_ rfl ?_)))))))))
    exact aa_ ⟨(l + 1, Hs1), hlx4, (by rw [eu_ hx4, aW_]; exact hS1)⟩ (by dsimp only; omega) ⟨rfl, rfl, rfl, rfl, rfl, rfl, rfl, rfl, rfl, rfl, rfl, rfl, trivial⟩ (o_ (q_ i_) (o_ aX_ aC_)) (fun _ _ h => h)
 ·
  replace hr1 := of_decide_eq_true hr1
  have hlx1 : i < List.length (lat pm (Ky.mk 6 (Fc.r f) [])) := by omega
  obtain ⟨x1, hx1⟩ : ∃ e0, (lat pm (Ky.mk 6 (Fc.r f) []))[i]? = some e0 := ⟨_, List.getElem?_eq_getElem hlx1⟩
  have hmx1 : x1 ∈ (lat pm (Ky.mk 6 (Fc.r f) [])) := List.mem_of_getElem? hx1
  refine u_ rfl (F_ (b_ rfl (h_ (N_ (h_ (c_ (a_ (ad_ P_ R_ rfl rfl (fun v _ h => av_ (n := 10) Pc.cells_len (by decide) (by exact (bO_ h.2.1 (Ky.mk 6 (Fc.r f) []))) hx1) (by omega) (by first | omega | (simp; done))) rfl (a_ (aJ_ (ad := (Prod.fst (A.p (Ky.mk 6 (Fc.r f) [])))) (us := Pc.cells x1) aK_ R_ rfl (fun v _ h => by exact (bO_ h.2.1 (Ky.mk 6 (Fc.r f) []))) (Pc.cells_len _) (ag_ Pc.cells_len hx1)) rfl (ay_ bj_ rfl fun b3 => ?_)))))))))
  refine af_ 0 R_ rfl rfl rfl rfl rfl rfl (e_ (b_ rfl (h_ ?_)))
  refine aE_ (by kernel_rfl) ?_
  refine Z_ 0 [0, 1, 2, 3, 4, 5, 6, 7, 8, 9, 10, 11] (by kernel_rfl) (fun _ a b => ⟨a, b⟩) (n_ rfl (f_ rfl) rfl (n_ rfl (aq_ rfl) rfl (n_ rfl (l_ K_ rfl rfl rfl du_) rfl (n_ rfl (ai_ ea_ rfl (fun v _ h => by exact h.1) rfl) rfl (n_ rfl (l_ k_ rfl rfl rfl j_) rfl (n_ rfl (t_ 1 p_ rfl rfl rfl) rfl (n_ rfl (l_ m_ rfl rfl rfl j_) rfl (n_ rfl (t_ 0 p_ rfl rfl rfl) rfl (n_ rfl (aL_ eW_ rfl rfl) rfl ?_)))))))))
  refine n_ rfl (ct_ (k := ((Fc.b f), (Pc.s x1))) (adr := A.o) cU_ ch_ bG_ rfl rfl (fun v _ h => by exact h.2.2.2.2.1)) rfl (n_ rfl (ar_ D_ rfl) rfl (n_ rfl (f_ rfl) rfl (Y_ (ab_ (by kernel_rfl) (b_ rfl (N_ ?_))))))
  refine aB_ (ι := {y : Nat × Hp // y.1 ≤ List.length (lat x.frm ((Fc.b f), (Pc.s x1))) ∧ E.St (emits E.stp (List.map (fun a => au_ (Fc.a f) (Pc.t x1) a) (List.take y.1 (lat x.frm ((Fc.b f), (Pc.s x1))))) (emits E.stp (List.flatMap (fun y => List.map (fun a => au_ (Fc.a f) (Pc.t y) a) (lat x.frm (Fc.b f, Pc.s y))) (List.take i (lat pm (Ky.mk 6 (Fc.r f) [])))) nw)) fm y.2}) (fun y => [(0, zp_ B.g 0), (3, zp_ b1 0), (19, .slice (Prod.fst (A.p (Ky.mk 6 (Fc.r f) []))) (List.length (lat pm (Ky.mk 6 (Fc.r f) []))) (Prod.snd (A.p (Ky.mk 6 (Fc.r f) [])))), (20, .int .i64 (List.length (lat pm (Ky.mk 6 (Fc.r f) [])) : Int)), (21, .int .i64 (i : Int)), (5, zp_ b3 0), (34, .slice (Prod.fst (A.o ((Fc.b f), (Pc.s x1)))) (List.length (lat x.frm ((Fc.b f), (Pc.s x1)))) (Prod.snd (A.o ((Fc.b f), (Pc.s x1))))), (35, .int .i64 (List.length (lat x.frm ((Fc.b f), (Pc.s x1))) : Int)), (36, .int .i64 (y.1.1 : Int))]) (fun y => ((b3, .cells (Pc.cells x1).toArray 47 (0, 0)) :: ((b1, .cells (Fc.cells f).toArray 41 (0, 0)) :: y.1.2))) (fun y => [gF B E, pF B pm A, aF B x A, uF B x A, oF B x A, iF B x A, rF B x A, sF B x A, E.ef]) (fun y => List.length (lat x.frm ((Fc.b f), (Pc.s x1))) - y.1.1) ⟨((0 : Nat), Hs_i), by simp, by exact hS_i⟩ ⟨rfl, rfl, rfl, rfl, rfl, rfl, rfl, rfl, rfl, trivial⟩ (o_ i_ (o_ i_ aC_)) (fun _ _ h => h) ?_
  rintro ⟨⟨j, Hs_j⟩, hi_j, hS_j⟩
  dsimp only at hi_j hS_j ⊢
  have hb_j := (hyl ((Fc.b f), (Pc.s x1))).1
  refine h_ (c_ (y_ (ax_ rfl rfl) rfl fun r4 hr4 => ?_))
  refine e_ (b_ rfl (h_ ?_))
  cases r4
  ·
   replace hr4 := of_decide_eq_false hr4
   refine v_ rfl (as_ rfl (b_ rfl (c_ (a_ (M_ rfl rfl rfl (aj_ (by omega) (by omega))) rfl (a_ (f_ rfl) rfl (e_ (w_ rfl ?_)))))))
   exact aa_ ⟨(i + 1, Hs_j), hlx1, (by rw [fR_ hx1, aW_]; have e9 : List.take j (lat x.frm (Fc.b f, Pc.s x1)) = (lat x.frm (Fc.b f, Pc.s x1)) := List.take_of_length_le (by omega); rw [e9] at hS_j; exact hS_j)⟩ (by dsimp only; omega) ⟨rfl, rfl, rfl, rfl, rfl, trivial⟩ (o_ (d_ i_) Q_) (fun _ _ h => h)
  ·
   replace hr4 := of_decide_eq_true hr4
   have hlx2 : j < List.length (lat x.frm ((Fc.b f), (Pc.s x1))) := by omega
   obtain ⟨x2, hx2⟩ : ∃ e0, (lat x.frm ((Fc.b f), (Pc.s x1)))[j]? = some e0 := ⟨_, List.getElem?_eq_getElem hlx2⟩
   have hmx2 : x2 ∈ (lat x.frm ((Fc.b f), (Pc.s x1))) := List.mem_of_getElem? hx2
   refine u_ rfl (F_ (b_ rfl (h_ (N_ (h_ (c_ (a_ (ad_ D_ j_ rfl rfl (fun v _ h => av_ (n := 1) am_ (by decide) (by exact (bO_ h.2.2.2.2.1 ((Fc.b f), (Pc.s x1)))) hx2) (by omega) (by first | omega | (simp; done))) rfl (a_ (aG_ (ad := (Prod.fst (A.o ((Fc.b f), (Pc.s x1))))) p_ rfl (fun v _ h => by exact (bO_ h.2.2.2.2.1 ((Fc.b f), (Pc.s x1)))) (ag_ am_ hx2 0 _ rfl)) rfl (a_ (g_ rfl) rfl ?_)))))))))
   refine e_ (b_ rfl ?_)
   refine aP_ ((b3, .cells (Pc.cells x1).toArray 47 (0, 0)) :: ((b1, .cells (Fc.cells f).toArray 41 (0, 0)) :: [])) (by kernel_rfl) ?_
   refine Z_ 2 [0, 1, 2, 3, 4, 5, 6, 7, 8] (by kernel_rfl) (fun _ a b => ⟨Vw.sat.sub (a.perm (o_ i_ i_)), b⟩) (n_ rfl (f_ rfl) rfl (n_ rfl (aq_ rfl) rfl (n_ rfl (l_ K_ rfl rfl rfl aU_) rfl (n_ rfl (ai_ bs_ rfl (fun v _ h => by exact h.1) rfl) rfl (n_ rfl (l_ k_ rfl rfl rfl j_) rfl (n_ rfl (t_ 1 p_ rfl rfl rfl) rfl (n_ rfl (l_ m_ rfl rfl rfl j_) rfl (n_ rfl (t_ 0 p_ rfl rfl rfl) rfl (n_ rfl (f_ rfl) rfl ?_)))))))))
   refine Y_ (U_ 9 rfl (by kernel_rfl) (X_ (il_ (Fc.a f) (Pc.t x1) x2) rfl J_ (fun _ _ _ => by exact trivial) rfl fun _ => ?_))
   refine e_ (w_ rfl (O_ (fun _ a b => ⟨Vw.sat.sub (a.perm (o_ i_ i_)), b⟩) (U_ 10 rfl (by kernel_rfl) (ba_ (first := []) (cap := E.caps) (E.emit (au_ (Fc.a f) (Pc.t x1) x2) (emits E.stp (List.map (fun a => au_ (Fc.a f) (Pc.t x1) a) (List.take j (lat x.frm ((Fc.b f), (Pc.s x1))))) (emits E.stp (List.flatMap (fun y => List.map (fun a => au_ (Fc.a f) (Pc.t y) a) (lat x.frm (Fc.b f, Pc.s y))) (List.take i (lat pm (Ky.mk 6 (Fc.r f) [])))) nw)) fm Hs_j hS_j) rfl rfl (d_ Q_) (fun v _ h => by exact ⟨h.2.2.2.2.2.2.2.2.1, trivial⟩) rfl fun ⟨Hs2, hS2⟩ => ?_))))
   dsimp only
   refine e_ (w_ rfl (O_ (fun _ a b => ⟨Vw.sat.sub (a.perm (o_ (q_ i_) aX_)), b⟩) (ab_ (by kernel_rfl) (b_ rfl (c_ (a_ (M_ rfl rfl rfl (aj_ (by omega) (by omega))) rfl (a_ (f_ rfl) rfl (e_ (w_ rfl ?_)))))))))
   exact aa_ ⟨(j + 1, Hs2), hlx2, (by rw [eu_ hx2, aW_]; exact hS2)⟩ (by dsimp only; omega) ⟨rfl, rfl, rfl, rfl, rfl, rfl, rfl, rfl, rfl, trivial⟩ (o_ (q_ i_) (o_ aX_ aC_)) (fun _ _ h => h)
theorem mj_ (B : EngB) (E : Emt Tryz.prog 41) (A : EngA) (pm : List (Ky × Pc)) (x : Ix) (f : Fc) (nw fm : List Fc) (Hs : Hp) (hS : E.St nw fm Hs) (hpl : ∀ k, (lat pm k).length ≤ 1000000000) (hxl : ∀ k, (lat x.above k).length ≤ 1000000000 ∧ (lat x.under k).length ≤ 1000000000) (hyl : ∀ k, (lat x.frm k).length ≤ 1000000000 ∧ (lat x.into k).length ≤ 1000000000 ∧ (lat x.ranges k).length ≤ 1000000000 ∧ (lat x.firms k).length ≤ 1000000000) : Tri Tryz.prog 104 #[zp_ B.g 0, Fc.val f] Hs [gF B E, pF B pm A, aF B x A, uF B x A, oF B x A, iF B x A, rF B x A, sF B x A, E.ef] (fun _ : {H' : Hp // E.St (emits E.stp (ds_ x f) nw) fm H'} => .tuple #[]) (fun y => y.1) (fun _ => []) := by
 refine T_ Tryz.func104 rfl rfl Tryz.ntmps104 rfl fun v0 => ?_
 refine h_ (c_ (bh_ rfl rfl fun b1 => ?_))
 refine e_ (b_ rfl (h_ (c_ (a_ (l_ k_ rfl rfl rfl j_) rfl (a_ (t_ 0 p_ rfl rfl rfl) rfl (y_ (ao_ rfl rfl) rfl fun r1 hr1 => ?_))))))
 refine e_ (b_ rfl ?_)
 cases r1
 ·
  replace hr1 := ne_of_beq_false hr1
  refine v_ rfl (F_ (bk_ rfl ?_))
  exact de_ Tryz.results104 ⟨Hs, by unfold ds_; rw [if_neg (by assumption)]; exact hS⟩ rfl Q_ (fun _ _ _ => trivial)
 ·
  replace hr1 := eq_of_beq hr1
  refine u_ rfl (h_ ?_)
  refine aE_ (by kernel_rfl) ?_
  refine Z_ 0 [0, 1, 2, 3, 4, 5, 6, 7, 8] (by kernel_rfl) (fun _ a b => ⟨a, b⟩) (n_ rfl (f_ rfl) rfl (n_ rfl (aq_ rfl) rfl (n_ rfl (l_ K_ rfl rfl rfl hC_) rfl (n_ rfl (ai_ mR_ rfl (fun v _ h => by exact h.1) rfl) rfl (n_ rfl (l_ k_ rfl rfl rfl j_) rfl (n_ rfl (t_ 0 p_ rfl rfl rfl) rfl (n_ rfl (ct_ (k := (Fc.a f)) (adr := A.u) fL_ cx_ bG_ rfl rfl (fun v _ h => by exact h.2.2.2.1)) rfl (n_ rfl (ar_ D_ rfl) rfl (n_ rfl (f_ rfl) rfl ?_)))))))))
  refine Y_ (ab_ (by kernel_rfl) (b_ rfl (N_ ?_)))
  refine aB_ (ι := {y : Nat × Hp // y.1 ≤ List.length (lat x.under (Fc.a f)) ∧ E.St (emits E.stp (List.map (fun a => ak_ a [33]) (List.take y.1 (lat x.under (Fc.a f)))) nw) fm y.2}) (fun y => [(0, zp_ B.g 0), (15, .slice (Prod.fst (A.u (Fc.a f))) (List.length (lat x.under (Fc.a f))) (Prod.snd (A.u (Fc.a f)))), (16, .int .i64 (List.length (lat x.under (Fc.a f)) : Int)), (17, .int .i64 (y.1.1 : Int))]) (fun y => (y.1.2)) (fun y => [gF B E, pF B pm A, aF B x A, uF B x A, oF B x A, iF B x A, rF B x A, sF B x A, E.ef]) (fun y => List.length (lat x.under (Fc.a f)) - y.1.1) ⟨((0 : Nat), Hs), by simp, by exact hS⟩ ⟨rfl, rfl, rfl, rfl, trivial⟩ Q_ (fun _ _ h => h) ?_
  rintro ⟨⟨i, Hs_i⟩, hi_i, hS_i⟩
  dsimp only at hi_i hS_i ⊢
  have hb_i := (hxl (Fc.a f)).2
  refine h_ (c_ (y_ (ax_ rfl rfl) rfl fun r2 hr2 => ?_))
  refine e_ (b_ rfl (h_ ?_))
  cases r2
  ·
   replace hr2 := of_decide_eq_false hr2
   refine v_ rfl (as_ rfl (bk_ rfl ?_))
   exact de_ Tryz.results104 ⟨Hs_i, by unfold ds_; rw [if_pos (by assumption)]; rw [List.take_of_length_le (by omega)] at hS_i; exact hS_i⟩ rfl aC_ (fun _ _ _ => trivial)
  ·
   replace hr2 := of_decide_eq_true hr2
   have hlx1 : i < List.length (lat x.under (Fc.a f)) := by omega
   obtain ⟨x1, hx1⟩ : ∃ e0, (lat x.under (Fc.a f))[i]? = some e0 := ⟨_, List.getElem?_eq_getElem hlx1⟩
   have hmx1 : x1 ∈ (lat x.under (Fc.a f)) := List.mem_of_getElem? hx1
   refine u_ rfl (F_ (b_ rfl (h_ (N_ (h_ (c_ (a_ (ad_ D_ j_ rfl rfl (fun v _ h => av_ (n := 1) am_ (by decide) (by exact (bO_ h.2.2.2.1 (Fc.a f))) hx1) (by omega) (by first | omega | (simp; done))) rfl (a_ (aG_ (ad := (Prod.fst (A.u (Fc.a f)))) p_ rfl (fun v _ h => by exact (bO_ h.2.2.2.1 (Fc.a f))) (ag_ am_ hx1 0 _ rfl)) rfl (a_ (g_ rfl) rfl ?_)))))))))
   refine e_ (b_ rfl ?_)
   refine aP_ ([]) (by kernel_rfl) ?_
   refine Z_ 2 [0, 1, 2, 3, 4] (by kernel_rfl) (fun _ a b => ⟨by_ a, b⟩) (n_ rfl (f_ rfl) rfl (n_ rfl (aq_ rfl) rfl (n_ rfl (l_ K_ rfl rfl rfl aU_) rfl (n_ rfl (ai_ bs_ rfl (fun v _ h => by exact h.1) rfl) rfl (n_ rfl (f_ rfl) rfl (Y_ (U_ 5 rfl (by kernel_rfl) (X_ (eU_ x1 [33]) rfl J_ (fun _ _ _ => by exact trivial) rfl fun _ => ?_))))))))
   refine al_ iz_ (e_ (w_ rfl (O_ (fun _ a b => ⟨by_ a, b⟩) (U_ 6 rfl (by kernel_rfl) (ba_ (first := []) (cap := E.caps) (E.emit (ak_ x1 [33]) (emits E.stp (List.map (fun a => ak_ a [33]) (List.take i (lat x.under (Fc.a f)))) nw) fm Hs_i hS_i) rfl rfl aC_ (fun v _ h => by exact ⟨h.2.2.2.2.2.2.2.2.1, trivial⟩) rfl fun ⟨Hs1, hS1⟩ => ?_)))))
   dsimp only
   refine al_ gf_ (e_ (w_ rfl (O_ (fun _ a b => ⟨by_ a, b⟩) (ab_ (by kernel_rfl) (b_ rfl (c_ (a_ (M_ rfl rfl rfl (aj_ (by omega) (by omega))) rfl (a_ (f_ rfl) rfl (e_ ?_)))))))))
   refine w_ rfl ?_
   exact aa_ ⟨(i + 1, Hs1), hlx1, (by rw [eu_ hx1, aW_]; exact hS1)⟩ (by dsimp only; omega) ⟨rfl, rfl, rfl, rfl, trivial⟩ aC_ (fun _ _ h => h)
theorem mi_ (B : EngB) (E : Emt Tryz.prog 41) (A : EngA) (pm : List (Ky × Pc)) (x : Ix) (f : Fc) (nw fm : List Fc) (Hs : Hp) (hS : E.St nw fm Hs) (hpl : ∀ k, (lat pm k).length ≤ 1000000000) (hxl : ∀ k, (lat x.above k).length ≤ 1000000000 ∧ (lat x.under k).length ≤ 1000000000) (hyl : ∀ k, (lat x.frm k).length ≤ 1000000000 ∧ (lat x.into k).length ≤ 1000000000 ∧ (lat x.ranges k).length ≤ 1000000000 ∧ (lat x.firms k).length ≤ 1000000000) : Tri Tryz.prog 109 #[zp_ B.g 0, Fc.val f] Hs [gF B E, pF B pm A, aF B x A, uF B x A, oF B x A, iF B x A, rF B x A, sF B x A, E.ef] (fun _ : {H' : Hp // E.St (if ak_ (Fc.b f) [33] ∈ E.kof nw then E.stp (ak_ (Fc.a f) [33]) nw else nw) fm H'} => .tuple #[]) (fun y => y.1) (fun _ => []) := by
  refine T_ Tryz.func109 rfl rfl Tryz.ntmps109 rfl fun v0 => ?_
  refine h_ (c_ (bh_ rfl rfl fun b1 => ?_))
  refine e_ (b_ rfl (h_ ?_))
  refine aE_ (by kernel_rfl) ?_
  refine Z_ 2 [0, 1, 2, 3, 4, 5] (by kernel_rfl) (fun _ a b => ⟨a, b⟩) (n_ rfl (f_ rfl) rfl (n_ rfl (aq_ rfl) rfl (n_ rfl (l_ K_ rfl rfl rfl bB_) rfl (n_ rfl (ai_ bH_ rfl (fun v _ h => by exact h.1) rfl) rfl (n_ rfl (l_ k_ rfl rfl rfl j_) rfl (n_ rfl (t_ 0 p_ rfl rfl rfl) rfl (Y_ (U_ 6 rfl (by kernel_rfl) (X_ (eU_ (Fc.b f) [33]) rfl J_ (fun _ _ _ => by exact trivial) rfl fun _ => ?_)))))))))
  refine e_ (w_ rfl (O_ (fun _ a b => ⟨a, b⟩) (Z_ 0 [7] (by kernel_rfl) (fun _ a b => ⟨a, b⟩) ?_)))
  refine bX_ rfl (gV_ (f := (ak_ (Fc.b f) [33])) hS fN_ aV_ cl_ rfl rfl Q_) rfl fun r1 hr1 => ?_
  refine Y_ (ab_ (by kernel_rfl) (b_ rfl ?_))
  cases r1
  · skip
    replace hr1 := of_decide_eq_false hr1
    refine v_ rfl (F_ (bk_ rfl ?_))
    exact de_ Tryz.results109 ⟨Hs, by first | (rw [if_pos (by assumption)]; exact hS) | (rw [if_neg (by assumption)]; exact hS)⟩ rfl Q_ (fun _ _ _ => trivial)
  · skip
    replace hr1 := of_decide_eq_true hr1
    refine u_ rfl ?_
    refine aP_ ((b1, .cells (Fc.cells f).toArray 41 (0, 0)) :: []) (by kernel_rfl) ?_
    refine Z_ 2 [0, 1, 2, 3, 4, 5] (by kernel_rfl) (fun _ a b => ⟨Vw.sat.sub (a.perm i_), b⟩) (n_ rfl (f_ rfl) rfl (n_ rfl (aq_ rfl) rfl (n_ rfl (l_ K_ rfl rfl rfl aU_) rfl (n_ rfl (ai_ bs_ rfl (fun v _ h => by exact h.1) rfl) rfl (n_ rfl (l_ k_ rfl rfl rfl j_) rfl (n_ rfl (t_ 0 p_ rfl rfl rfl) rfl (Y_ (U_ 6 rfl (by kernel_rfl) (X_ (eU_ (Fc.a f) [33]) rfl J_ (fun _ _ _ => by exact trivial) rfl fun _ => ?_)))))))))
    refine e_ (w_ rfl (O_ (fun _ a b => ⟨Vw.sat.sub (a.perm i_), b⟩) (U_ 7 rfl (by kernel_rfl) (ba_ (first := []) (cap := E.caps) (E.emit (ak_ (Fc.a f) [33]) nw fm Hs hS) rfl rfl Q_ (fun v _ h => by exact ⟨h.2.2.2.2.2.2.2.2.1, trivial⟩) rfl fun ⟨Hs1, hS1⟩ => ?_))))
    dsimp only
    refine e_ (w_ rfl (O_ (fun _ a b => ⟨Vw.sat.sub (a.perm aX_), b⟩) (ab_ (by kernel_rfl) (bk_ rfl ?_))))
    exact de_ Tryz.results109 ⟨Hs1, by first | (rw [if_pos (by assumption)]; exact hS1) | (rw [if_neg (by assumption)]; exact hS1)⟩ rfl x_ (fun _ _ _ => trivial)
end Go.Proofs.YtpdbbglpbngeiaaGreatDoor
