/-
  Part of the proof of the law IncrementHistory over this seat: the small logic, the data, the contracts of functions (no condition).
-/
import Derived.Test.YtpdbbglpbngeiaaGreatDoorQIncrementHistory2
import Derived.Test.YtpdbbglpbngeiaaGreatDoorQIncrementHistory1
import Derived.Scope
import Derived.Lib.AppendZeros
import Derived.Maps.RangeRun
set_option linter.unusedVariables false
set_option linter.unusedSimpArgs false
set_option linter.unusedSectionVars false
namespace Go.Vs
open Go Go.Sx
def be_ (m : Nat) (y : Fc) (q : List Fc) : List Fc := if q.length ≤ m ∧ y ∉ q then q ++ [y] else q
abbrev idk : List Fc → List Fc := fun q => q
theorem jv_ (m : Nat) (y : Fc) (q : List Fc) : ∃ t, be_ m y q = q ++ t := by
  unfold be_; split
  · exact ⟨[y], rfl⟩
  · exact ⟨[], by simp⟩
theorem gy_ (m : Nat) : ∀ (L q : List Fc), ∃ t, emits (be_ m) L q = q ++ t
  | [], q => ⟨[], by simp [emits]⟩
  | y :: L, q => by
    obtain ⟨t, h⟩ := jv_ m y q
    obtain ⟨u, h'⟩ := gy_ m L (be_ m y q)
    exact ⟨t ++ u, by rw [← List.append_assoc, ← h, ← h']; rfl⟩
theorem dP_ (m : Nat) : Grows (be_ m) idk := ⟨fun y s z hz => by obtain ⟨t, h⟩ := jv_ m y s; rw [h]; exact List.mem_append_left _ hz⟩
theorem en_ (m : Nat) : ∀ (L q : List Fc) (z : Fc), z ∈ emits (be_ m) L q → z ∈ q ∨ z ∈ L
  | [], q, z, h => .inl h
  | y :: L, q, z, h => by
    rcases en_ m L (be_ m y q) z h with h | h
    · unfold be_ at h
      split at h
      · rcases List.mem_append.1 h with h | h
        · exact .inl h
        · exact .inr (by simp at h; simp [h])
      · exact .inl h
    · exact .inr (List.mem_cons_of_mem _ h)
theorem fJ_ (m : Nat) : ∀ (L q : List Fc), q.Nodup → (emits (be_ m) L q).Nodup
  | [], q, h => h
  | y :: L, q, h => by
    refine fJ_ m L (be_ m y q) ?_
    unfold be_
    split
    · rename_i hc
      rw [List.nodup_append]
      exact ⟨h, by simp, fun a ha b hb e => by simp at hb; subst hb; subst e; exact hc.2 ha⟩
    · exact h
theorem ja_ (m : Nat) : ∀ (L q : List Fc), q.length ≤ m + 1 → (emits (be_ m) L q).length ≤ m + 1
  | [], q, h => h
  | y :: L, q, h => by
    refine ja_ m L (be_ m y q) ?_
    unfold be_
    split
    · rename_i hc; simp; exact hc.1
    · exact h
theorem fK_ (m : Nat) : ∀ (L q : List Fc), (emits (be_ m) L q).length ≤ m → ∀ y ∈ L, y ∈ emits (be_ m) L q
  | [], q, _, y, hy => by simp at hy
  | x :: L, q, h, y, hy => by
    have e : emits (be_ m) (x :: L) q = emits (be_ m) L (be_ m x q) := rfl
    rw [e] at h ⊢
    rcases List.mem_cons.1 hy with rfl | hy
    · obtain ⟨t, ht⟩ := gy_ m L (be_ m y q)
      rw [ht] at h ⊢
      refine List.mem_append_left _ ?_
      have hl : (be_ m y q).length ≤ m := by rw [List.length_append] at h; omega
      unfold be_ at hl ⊢
      split
      · simp
      · rename_i hc
        rw [if_neg hc] at hl
        exact Classical.byContradiction fun hn => hc ⟨hl, hn⟩
    · exact fK_ m L _ h y hy
theorem gS_ {ps : List Pc} {A : List Str} {m : Nat} {f : Fc} : ∀ (l : List Pc) (s : List Fc), (∀ z ∈ l, z ∈ ps ∧ z.kind = 2) → (∀ y ∈ s, Der ps A y) → ∀ y ∈ dm_ (be_ m) idk f l s, Der ps A y
  | [], s, _, hs, y, hy => hs y hy
  | z :: l, s, hl, hs, y, hy => by
    have hz := hl z (by simp)
    simp only [dm_, List.foldl_cons] at hy
    refine gS_ l _ (fun z hz => hl z (by simp [hz])) (fun y hy => ?_) y hy
    split at hy
    · rename_i hc
      have := en_ m [aq_ f.a z.c] s y hy
      rcases this with h | h
      · exact hs y h
      · simp at h; subst h
        exact Der.step (.r4 hz.1 hz.2 (hs _ hc.1) (hs _ hc.2))
    · exact hs y hy
section
variable {ps : List Pc} {A : List Str} {m : Nat} {x : Ix} {S Fm : Fc → Prop} {f : Fc}
theorem lD_ (hr : ∀ x ∈ ps, x.vok) (hx : x.of S Fm) (hS : ∀ y, S y → y.form) (hk : f.kind = 1 ∨ f.kind = 2 ∨ f.kind = 3) (hf : f.form) (j : Nat) (s : List Fc × List Fc) (hSs : ∀ y, S y → y ∈ s.1) (hfs : f ∈ s.1) (hs : ∀ y ∈ s.1, Der ps A y) :
    ∀ y ∈ (rl (be_ m) idk (aF_ ps) x f j s).1, Der ps A y := by
  have E : ∀ L, (∀ y ∈ L, eI_ ps A (· ∈ s.1) y) → ∀ y ∈ emits (be_ m) L s.1, Der ps A y := fun L hL y hy => by
    rcases en_ m L s.1 y hy with h | h
    · exact hs y h
    · exact Der.step ((hL y h).mono (fun x hx => ⟨x, hx, x.frm, rfl⟩) (fun _ h => h) hs (fun _ _ h => h))
  unfold rl
  split
  · rename_i h1
    split
    · exact E _ (ig_ h1 hf hfs)
    · exact gS_ _ s.1 (fun z hz => by have := pm2.1 hz; exact ⟨this.1, this.2.1⟩) hs
    · exact E _ (kt_ h1 hf hfs)
    · exact E _ (hU_ hr hx hS hSs h1 hf hfs)
    · exact E _ (gX_ hx hS hSs h1 hf hfs)
    · rw [dD_]; exact E _ (jr_ h1 hf hfs)
  · split
    · rename_i h2
      split
      · exact E _ (ie_ h2 hf hfs)
      · exact E _ (kk_ hx hS hSs h2 hf hfs)
      · exact E _ (hS_ hx hS hSs h2 hf hfs)
      · simp only
        split
        · rename_i hc
          exact E [aq_ f.a [33]] (fun y hy => by simp at hy; subst hy; exact gW_ h2 hf hfs hc)
        · exact hs
    · rename_i h1 h2
      have h3 : f.kind = 3 := by omega
      split
      · exact E _ (kA_ hx hS hSs h3 hf hfs)
      · exact E _ (lM_ h3 hf hfs)
theorem hr_ (hr : ∀ x ∈ ps, x.vok) (hx : x.of S Fm) (hS : ∀ y, S y → y.form) (hf : f.form) (s : List Fc × List Fc) (hSs : ∀ y, S y → y ∈ s.1) (hfs : f ∈ s.1) (hs : ∀ y ∈ s.1, Der ps A y) (j : Nat) :
    ∀ y ∈ (rls (be_ m) idk (aF_ ps) x f j s).1, Der ps A y := by
  induction j with
  | zero => exact hs
  | succ j ih => exact lD_ hr hx hS (fG_ hf) hf j _ (fun y hy => gC_ (dP_ m) j s y (hSs y hy)) (gC_ (dP_ m) j s f hfs) ih
end
inductive Fmd (fm : List Fc) : Fc → Prop
  | base {y : Fc} (h : y ∈ fm) : Fmd fm y
  | meet {y z : Fc} (hy : Fmd fm y) (hz : Fmd fm z) (ha : z.a = y.a) (hr : z.r = y.r) (hl : max y.lo z.lo ≤ min y.hi z.hi) : Fmd fm (cL_ y z)
theorem Fmd.mono {fm fm' : List Fc} (h : ∀ y ∈ fm, y ∈ fm') {y : Fc} (hy : Fmd fm y) : Fmd fm' y := by
  induction hy with
  | base h1 => exact .base (h _ h1)
  | meet _ _ ha hr hl ih1 ih2 => exact .meet ih1 ih2 ha hr hl
structure InvA (ps : List Pc) (A : List Str) (m n : Nat) (q fm : List Fc) (x : Ix) : Prop where
  nd : q.Nodup
  len : q.length ≤ m
  le : n ≤ q.length
  der : ∀ y ∈ q, Der ps A y
  form : ∀ y ∈ q, y.form
  ix : x.of (· ∈ q.take n) (· ∈ fm)
  fmq : ∀ y ∈ fm, y ∈ q ∧ y.kind = 3
  firm : ∀ y ∈ q, y.kind = 3 → Fmd fm y
  st : ∀ a ∈ A, aq_ a a ∈ q ∧ aq_ a [42] ∈ q ∧ ∀ z ∈ ps, z.kind = 7 → av_ a z.r a ∈ q
  cl : ∀ y, One ps A (· ∈ q.take n) (fun y z => y ∈ fm ∨ z ∈ fm) y → y ∈ q
theorem Der.form {p : List Pc} {A : List Str} (hp : ∀ x ∈ p, x.vok) {y : Fc} (h : Der p A y) : y.form := h _ fun _ hz => One.form hp (fun _ h => h) hz
theorem gN_ {stp : Fc → List Fc → List Fc} {kof : List Fc → List Fc} (hk : ∀ i s z, z ∈ kof (stp i s) → z ∈ kof s ∨ z = i) (h : Grows stp kof) (f : Fc) : ∀ (l : List Pc) (s fm : List Fc), ∀ y ∈ l, at_ f.a y.r y.lo y.hi ∈ kof s ∨ at_ f.a y.r y.lo y.hi ∈ (bM_ stp kof f l (s, fm)).2
  | [], s, fm, y, hy => by simp at hy
  | x :: l, s, fm, y, hy => by
    have e : bM_ stp kof f (x :: l) (s, fm) = bM_ stp kof f l (stp (at_ f.a x.r x.lo x.hi) s, if at_ f.a x.r x.lo x.hi ∈ kof s then fm else at_ f.a x.r x.lo x.hi :: fm) := rfl
    rw [e]
    by_cases he : at_ f.a y.r y.lo y.hi = at_ f.a x.r x.lo x.hi
    · rw [he]
      by_cases hc : at_ f.a x.r x.lo x.hi ∈ kof s
      · exact .inl hc
      · refine .inr ((eN_ h f l _ _ _).2 (.inl ?_))
        rw [if_neg hc]; simp
    · rcases List.mem_cons.1 hy with rfl | hy
      · exact absurd rfl he
      · rcases gN_ hk h f l (stp (at_ f.a x.r x.lo x.hi) s) (if at_ f.a x.r x.lo x.hi ∈ kof s then fm else at_ f.a x.r x.lo x.hi :: fm) y hy with h1 | h1
        · exact (hk _ _ _ h1).imp id fun q => absurd q he
        · exact .inr h1
theorem mt_ {q : List Fc} {n : Nat} {f z : Fc} (hn : q[n]? = some f) : z ∈ q.take (n + 1) ↔ z ∈ q.take n ∨ z = f := by
  rw [List.take_add_one, hn]; simp
theorem ol_ {ps : List Pc} {A : List Str} {S Fm kn good : Fc → Prop} {f : Fc} (hc : Cmpl ps (fun y => S y ∨ y = f) Fm kn good f) (hkn : ∀ y, S y ∨ y = f → kn y) (h : ∀ y, One ps A S (fun y z => Fm y ∨ Fm z) y → good y) (y : Fc) (hy : One ps A (fun y => S y ∨ y = f) (fun y z => Fm y ∨ Fm z) y) : good y := by
  cases hy with
  | r1 h1 => exact h _ (.r1 h1)
  | r2 h1 => exact h _ (.r2 h1)
  | r10 hx hk h1 => exact h _ (.r10 hx hk h1)
  | r3 hx hk h1 => exact h1.elim (fun q => h _ (.r3 hx hk q)) (fun q => hc.c3 _ _ hx hk q.symm)
  | r4 hx hk h1 h2 =>
    rcases h1 with h1 | h1
    · rcases h2 with h2 | h2
      · exact h _ (.r4 hx hk h1 h2)
      · exact hc.c4' _ _ hx hk h2.symm (hkn _ (.inl h1))
    · exact hc.c4 _ _ hx hk h1.symm (hkn _ h2)
  | r5 hx hk h1 => exact h1.elim (fun q => h _ (.r5 hx hk q)) (fun q => hc.c5 _ _ hx hk q.symm)
  | r6 hx hk h1 => exact h1.elim (fun q => h _ (.r6 hx hk q)) (fun q => hc.c6 _ _ _ hx hk q.symm)
  | r7 hx hk h1 h2 =>
    rcases h1 with h1 | h1
    · rcases h2 with h2 | h2
      · exact h _ (.r7 hx hk h1 h2)
      · exact hc.c7' _ _ _ _ hx hk h2.symm (.inl h1)
    · exact hc.c7 _ _ _ _ hx hk h1.symm h2
  | r8 hx hk h1 h2 =>
    rcases h1 with h1 | h1
    · rcases h2 with h2 | h2
      · exact h _ (.r8 hx hk h1 h2)
      · exact hc.c8' _ _ _ hx hk h2.symm (.inl h1)
    · exact hc.c8 _ _ _ hx hk h1.symm h2
  | r9 h1 h2 =>
    rcases h1 with h1 | h1
    · rcases h2 with h2 | h2
      · exact h _ (.r9 h1 h2)
      · exact hc.c9' _ _ _ h2.symm (.inl h1)
    · exact hc.c9 _ _ _ h1.symm (hkn _ h2)
  | r11 hx hk h1 => exact h1.elim (fun q => h _ (.r11 hx hk q)) (fun q => hc.c11 _ _ hx hk q.symm)
  | @r12 a r lo hi lo' hi' h1 h2 hm hl =>
    rcases h1 with h1 | h1
    · rcases h2 with h2 | h2
      · exact h _ (.r12 h1 h2 hm hl)
      · have := hc.c12 (at_ a r lo hi) (by rw [← h2]; rfl) (.inl h1) rfl (by rw [← h2]; rfl) (by rw [← h2]; rfl) (by rw [← h2]; exact hm.symm) (by rw [← h2]; simp only [at_]; omega)
        rw [← h2] at this
        rw [Int.max_comm, Int.min_comm]; exact this
    · have := hc.c12 (at_ a r lo' hi') (by rw [← h1]; rfl) h2 rfl (by rw [← h1]; rfl) (by rw [← h1]; rfl) (by rw [← h1]; exact hm) (by rw [← h1]; exact hl)
      rw [← h1] at this
      exact this
  | @r13 a r lo hi lo' hi' h1 h2 hm hl =>
    rcases h1 with h1 | h1
    · rcases h2 with h2 | h2
      · exact h _ (.r13 h1 h2 hm hl)
      · have := hc.c13 (at_ a r lo hi) (by rw [← h2]; rfl) (.inl h1) rfl (by rw [← h2]; rfl) (by rw [← h2]; rfl) (by rw [← h2]; exact hm.symm) (by rw [← h2]; simp only [at_]; omega)
        rw [← h2] at this
        exact this
    · have := hc.c13 (at_ a r lo' hi') (by rw [← h1]; rfl) h2 rfl (by rw [← h1]; rfl) (by rw [← h1]; rfl) (by rw [← h1]; exact hm) (by rw [← h1]; exact hl)
      rw [← h1] at this
      exact this
  | r14 hx hk h1 g1 g2 => exact h1.elim (fun q => h _ (.r14 hx hk q g1 g2)) (fun q => hc.c14 _ _ _ _ hx hk q.symm g1 g2)
theorem One.congrM {p : List Pc} {A : List Str} {S : Fc → Prop} {M M' : Fc → Fc → Prop} (hM : ∀ y z, S y → S z → M y z → M' y z) {y : Fc} (h : One p A S M y) : One p A S M' y := by
  cases h with
  | r1 h => exact .r1 h
  | r2 h => exact .r2 h
  | r10 hx hk h => exact .r10 hx hk h
  | r3 hx hk h => exact .r3 hx hk h
  | r4 hx hk h h' => exact .r4 hx hk h h'
  | r5 hx hk h => exact .r5 hx hk h
  | r6 hx hk h => exact .r6 hx hk h
  | r7 hx hk h h' => exact .r7 hx hk h h'
  | r8 hx hk h h' => exact .r8 hx hk h h'
  | r9 h h' => exact .r9 h h'
  | r11 hx hk h => exact .r11 hx hk h
  | r12 h h' hm hl => exact .r12 h h' (hM _ _ h h' hm) hl
  | r13 h h' hm hl => exact .r13 h h' (hM _ _ h h' hm) hl
  | r14 hx hk h h1 h2 => exact .r14 hx hk h h1 h2
section
variable {ps : List Pc} {A : List Str} {m n : Nat} {q fm : List Fc} {x : Ix} {f : Fc}
theorem mH_ (j k : Nat) (s : List Fc × List Fc) : ∃ t, (rls (be_ m) idk (aF_ ps) x f (j + k) s).1 = (rls (be_ m) idk (aF_ ps) x f j s).1 ++ t := by
  induction k with
  | zero => exact ⟨[], by simp⟩
  | succ k ih =>
    obtain ⟨t, h⟩ := ih
    obtain ⟨L, h'⟩ := jE_ (ps := ps) (x := x) (f := f) (dP_ m) (j + k) (rls (be_ m) idk (aF_ ps) x f (j + k) s)
    obtain ⟨u, h''⟩ := gy_ m L (rls (be_ m) idk (aF_ ps) x f (j + k) s).1
    exact ⟨t ++ u, by rw [← Nat.add_assoc, rls, h', h'', h, List.append_assoc]⟩
theorem jF_ (j : Nat) (s : List Fc × List Fc) (h : f.kind = 1 → j ≤ 4) (h3 : f.kind = 3 → j ≠ 0) (hk : f.kind = 1 ∨ f.kind = 2 ∨ f.kind = 3) : ∀ y ∈ (rl (be_ m) idk (aF_ ps) x f j s).1, y.kind = 3 → y ∈ s.1 := by
  have E : ∀ L : List Fc, (∀ y ∈ L, y.kind ≠ 3) → ∀ y ∈ emits (be_ m) L s.1, y.kind = 3 → y ∈ s.1 := fun L hL y hy hk =>
    (en_ m L s.1 y hy).elim id fun q => absurd hk (hL y q)
  have mp : ∀ {α : Type} (l : List α) (g : α → Fc), (∀ a, (g a).kind ≠ 3) → ∀ y ∈ l.map g, y.kind ≠ 3 := fun l g hg y hy => by
    obtain ⟨a, _, rfl⟩ := List.mem_map.1 hy; exact hg a
  have fmp : ∀ {α β : Type} (l : List α) (k : α → List β) (g : α → β → Fc), (∀ a b, (g a b).kind ≠ 3) → ∀ y ∈ l.flatMap (fun a => (k a).map (g a)), y.kind ≠ 3 := fun l k g hg y hy => by
    obtain ⟨a, _, hy⟩ := List.mem_flatMap.1 hy
    exact mp _ _ (hg a) y hy
  unfold rl
  split
  · rename_i h1
    split
    · exact E _ (mp _ _ fun _ => by simp [aq_])
    · obtain ⟨L, e1, e2, _⟩ := dJ_ (dP_ m) f (lat (aF_ ps) ⟨2, [], f.b⟩) s.1
      rw [e1]
      exact E L fun y hy => by obtain ⟨_, _, rfl, _⟩ := e2 y hy; simp [aq_]
    · exact E _ (mp _ _ fun _ => by simp [av_])
    · exact E _ (fmp _ _ _ fun _ _ => by simp [aq_])
    · refine E _ fun y hy => ?_
      unfold cx_ at hy
      split at hy
      · exact mp _ _ (fun _ => by simp [aq_]) y hy
      · simp at hy
    · have := h h1
      rename_i a1 a2 a3 a4 a5
      have hj : j = 0 ∨ j = 1 ∨ j = 2 ∨ j = 3 ∨ j = 4 := by omega
      rcases hj with hj | hj | hj | hj | hj
      · exact (a1 hj).elim
      · exact (a2 hj).elim
      · exact (a3 hj).elim
      · exact (a4 hj).elim
      · exact (a5 hj).elim
  · split
    · split
      · exact E _ (mp _ _ fun _ => by simp [av_])
      · refine E _ fun y hy => ?_
        rcases List.mem_append.1 hy with hy | hy
        · exact fmp _ _ _ (fun _ _ => by simp [av_]) y hy
        · exact fmp _ _ _ (fun _ _ => by simp [av_]) y hy
      · exact E _ (fmp _ _ _ fun _ _ => by simp [aq_])
      · simp only
        split
        · exact E [aq_ f.a [33]] (by simp [aq_])
        · exact fun y hy _ => hy
    · rename_i h1 h2
      split
      · exact absurd rfl (h3 (by omega))
      · exact E _ (mp _ _ fun _ => by simp [aq_])
theorem it_ (j : Nat) (s : List Fc × List Fc) (h : f.kind = 1 → j ≤ 5) (h3 : f.kind ≠ 3) (hk : f.kind = 1 ∨ f.kind = 2 ∨ f.kind = 3) : ∀ y ∈ (rls (be_ m) idk (aF_ ps) x f j s).1, y.kind = 3 → y ∈ s.1 := by
  induction j with
  | zero => exact fun y hy _ => hy
  | succ j ih => exact fun y hy hk3 => ih (fun hh => by have := h hh; omega) y (jF_ j _ (fun hh => by have := h hh; omega) (fun hh => absurd hh h3) hk y hy hk3) hk3
theorem ne_ (hr : ∀ x ∈ ps, x.vok) (inv : InvA ps A m n q fm x) (hn : q[n]? = some f) {s' : List Fc × List Fc} (hs : rls (be_ m) idk (aF_ ps) (x.add (decide (f ∈ fm)) f) f (nrl f) (q, fm) = s') (hl : s'.1.length ≤ m) :
    InvA ps A m (n + 1) s'.1 s'.2 (x.add (decide (f ∈ fm)) f) := by
  have hfq : f ∈ q := List.mem_of_getElem? hn
  have hlt : n < q.length := (List.getElem?_eq_some_iff.1 hn).1
  have hform := inv.form f hfq
  have hk := fG_ hform
  have hx' : (x.add (decide (f ∈ fm)) f).of (fun y => y ∈ q.take n ∨ y = f) (· ∈ fm) := Ix.of_add inv.ix f (by simp)
  have hSq : ∀ y, (y ∈ q.take n ∨ y = f) → y ∈ q := fun y hy => hy.elim (fun h => List.mem_of_mem_take h) (fun h => h ▸ hfq)
  obtain ⟨L, hL⟩ := gD_ (ps := ps) (x := x.add (decide (f ∈ fm)) f) (f := f) (dP_ m) (nrl f) (q, fm)
  rw [hs] at hL
  obtain ⟨t, ht⟩ := gy_ m L q
  have hpre : s'.1 = q ++ t := by rw [hL]; exact ht
  have hsub : ∀ y ∈ q, y ∈ s'.1 := fun y hy => by rw [hpre]; exact List.mem_append_left _ hy
  have htake : s'.1.take (n + 1) = q.take (n + 1) := by rw [hpre, List.take_append_of_le_length (by omega)]
  have hmem : ∀ y, y ∈ s'.1.take (n + 1) ↔ (y ∈ q.take n ∨ y = f) := fun y => by rw [htake]; exact mt_ hn
  have hder : ∀ y ∈ s'.1, Der ps A y := by rw [← hs]; exact hr_ hr hx' (fun y hy => inv.form y (hSq y hy)) hform (q, fm) hSq hfq inv.der (nrl f)
  have H : ∀ j, j < nrl f → ∀ L, (rls (be_ m) idk (aF_ ps) (x.add (decide (f ∈ fm)) f) f (j + 1) (q, fm)).1 = emits (be_ m) L (rls (be_ m) idk (aF_ ps) (x.add (decide (f ∈ fm)) f) f j (q, fm)).1 → ∀ y ∈ L, y ∈ s'.1 := by
    intro j hj L hL y hy
    obtain ⟨u, hu⟩ := mH_ (m := m) (ps := ps) (x := x.add (decide (f ∈ fm)) f) (f := f) (j + 1) (nrl f - (j + 1)) (q, fm)
    rw [show j + 1 + (nrl f - (j + 1)) = nrl f by omega, hs] at hu
    have hle : (rls (be_ m) idk (aF_ ps) (x.add (decide (f ∈ fm)) f) f (j + 1) (q, fm)).1.length ≤ m := by rw [hu, List.length_append] at hl; omega
    rw [hL] at hle
    have := fK_ m L _ hle y hy
    rw [hu, hL]
    exact List.mem_append_left _ this
  have hc := mG_ (dP_ m) hr hx' (q, fm) (fun _ _ => Iff.rfl) (.inr rfl) hSq (· ∈ s'.1) (fun y hy => hsub y (hSq y hy)) H
  -- the firm ones
  have hfm : (∀ y ∈ fm, y ∈ s'.2) ∧ (∀ y ∈ s'.2, y ∈ fm ∨ (y ∉ q ∧ y ∈ s'.1 ∧ y.kind = 3)) ∧ (∀ y ∈ s'.1, y.kind = 3 → y ∈ q ∨ y ∈ s'.2 ∨ ∃ z, (z ∈ q.take n ∨ z = f) ∧ z.kind = 3 ∧ f.kind = 3 ∧ z.a = f.a ∧ z.r = f.r ∧ max f.lo z.lo ≤ min f.hi z.hi ∧ y = cL_ f z) := by
    by_cases h1 : f.kind = 1
    · have e6 : nrl f = 5 + 1 := by simp [nrl, h1]
      rw [e6, rls] at hs
      have hf5 : (rls (be_ m) idk (aF_ ps) (x.add (decide (f ∈ fm)) f) f 5 (q, fm)).2 = fm := jD_ 5 (q, fm) (fun _ => Nat.le_refl _)
      have hk5 := it_ (m := m) (ps := ps) (x := x.add (decide (f ∈ fm)) f) (f := f) 5 (q, fm) (fun _ => Nat.le_refl _) (by omega) hk
      have hq5 : ∀ y ∈ q, y ∈ (rls (be_ m) idk (aF_ ps) (x.add (decide (f ∈ fm)) f) f 5 (q, fm)).1 := fun y hy => gC_ (dP_ m) 5 (q, fm) y hy
      have H5 := H 5 (by omega)
      rw [rls] at H5
      generalize rls (be_ m) idk (aF_ ps) (x.add (decide (f ∈ fm)) f) f 5 (q, fm) = s5 at hs hf5 hk5 hq5 H5
      have er : rl (be_ m) idk (aF_ ps) (x.add (decide (f ∈ fm)) f) f 5 s5 = bM_ (be_ m) idk f (lat (aF_ ps) ⟨8, [], f.b⟩) s5 := by rw [rl.eq_def, if_pos h1] <;> rfl
      rw [er] at hs H5
      have es5 : s5 = (s5.1, fm) := by rw [← hf5]
      rw [es5] at hs H5
      have Hv := H5 _ (dD_ (be_ m) idk f _ s5.1 fm)
      refine ⟨fun y hy => ?_, fun y hy => ?_, fun y hy hy3 => ?_⟩
      · rw [← hs]; exact (eN_ (dP_ m) f _ _ _ _).2 (.inl hy)
      · rw [← hs] at hy
        rcases (eN_ (dP_ m) f _ _ _ _).1 hy with h | h
        · exact .inl h
        · rcases hl_ f _ _ _ _ h.2 with g | ⟨z, hz, rfl⟩
          · exact .inl g
          · exact .inr ⟨fun hq => h.1 (hq5 _ hq), Hv _ (List.mem_map.2 ⟨z, hz, rfl⟩), rfl⟩
      · have hy' := hy
        rw [← hs, dD_] at hy
        rcases en_ m _ _ y hy with h | h
        · exact .inl (hk5 y h hy3)
        · obtain ⟨z, hz, rfl⟩ := List.mem_map.1 h
          rcases gN_ (stp := be_ m) (kof := idk) (fun i s z hz => (en_ m [i] s z hz).imp id (by simp)) (dP_ m) f _ s5.1 fm z hz with g | g
          · exact .inl (hk5 _ g rfl)
          · exact .inr (.inl (by rw [← hs]; exact g))
    · have hf2 : s'.2 = fm := by rw [← hs]; exact jD_ _ (q, fm) (fun h => absurd h h1)
      refine ⟨fun y hy => by rw [hf2]; exact hy, fun y hy => .inl (by rw [← hf2]; exact hy), fun y hy hy3 => ?_⟩
      by_cases h3 : f.kind = 3
      · have e2 : nrl f = 0 + 1 + 1 := by simp [nrl, h3]
        rw [e2, rls] at hs
        rw [← hs] at hy
        have hy1 := jF_ 1 _ (fun h => absurd h h1) (fun _ => by decide) hk y hy hy3
        rw [rls, rl.eq_def, if_neg h1, if_neg (by omega)] at hy1
        rcases en_ m _ _ y hy1 with h | h
        · exact .inl h
        · rcases List.mem_append.1 h with h | h
          · obtain ⟨z, hz, rfl⟩ := List.mem_map.1 h
            obtain ⟨hz, hcc⟩ := List.mem_filter.1 hz
            obtain ⟨g1, g2, g3, g4⟩ := gH_ hx' hz
            simp only [cc_, Bool.and_eq_true, Bool.not_eq_true', decide_eq_false_iff_not, Int.not_lt] at hcc
            exact .inr (.inr ⟨z, g1, g2, h3, g3, g4, hcc.1, rfl⟩)
          · unfold eZ_ at h
            split at h
            · simp at h; rw [h] at hy3; simp [aq_] at hy3
            · simp at h
      · rw [← hs] at hy
        exact .inl (it_ _ _ (fun h => absurd h h1) h3 hk y hy hy3)
  have hSfm : ∀ y, (y ∈ q.take n ∨ y = f) → (y ∈ fm ↔ y ∈ s'.2) := fun y hy => ⟨fun h => hfm.1 y h, fun h => (hfm.2.1 y h).elim id fun g => absurd (hSq y hy) g.1⟩
  refine ⟨?_, hl, ?_, hder, fun y hy => (hder y hy).form hr, ?_, ?_, ?_, ?_, ?_⟩
  · rw [hL]; exact fJ_ m L q inv.nd
  · rw [hpre, List.length_append]; omega
  · have := Ix.of_firm hx' hSfm
    have e : (fun y => y ∈ s'.1.take (n + 1)) = (fun y => y ∈ q.take n ∨ y = f) := funext fun y => propext (hmem y)
    rw [e]; exact this
  · intro y hy
    rcases hfm.2.1 y hy with h | h
    · exact ⟨hsub y (inv.fmq y h).1, (inv.fmq y h).2⟩
    · exact h.2
  · intro y hy hk3
    rcases hfm.2.2 y hy hk3 with h | h | ⟨z, h1, h2, h3, h4, h5, h6, rfl⟩
    · exact (inv.firm y h hk3).mono hfm.1
    · exact .base h
    · exact .meet ((inv.firm f hfq h3).mono hfm.1) ((inv.firm z (hSq z h1) h2).mono hfm.1) h4 h5 h6
  · intro a ha
    obtain ⟨g1, g2, g3⟩ := inv.st a ha
    exact ⟨hsub _ g1, hsub _ g2, fun z hz hk => hsub _ (g3 z hz hk)⟩
  · intro y hy
    have e : (fun y => y ∈ s'.1.take (n + 1)) = (fun y => y ∈ q.take n ∨ y = f) := funext fun y => propext (hmem y)
    rw [e] at hy
    refine ol_ (A := A) hc hSq (fun z hz => hsub z (inv.cl z hz)) y (hy.congrM fun u v hu hv hm => hm.imp (hSfm u hu).2 (hSfm v hv).2)
theorem mm_le {a b c d e g : Int} (h : max a (max b c) ≤ min d (min e g)) : max a b ≤ min d e := by omega
theorem nf_ (inv : InvA ps A m q.length q fm x) (y : Fc) : Der ps A y ↔ y ∈ q := by
  refine ⟨fun h => h.least fun y hy => ?_, inv.der y⟩
  have hcl : ∀ y, One ps A (· ∈ q) (fun y z => y ∈ fm ∨ z ∈ fm) y → y ∈ q := fun y hy => inv.cl y (by rw [List.take_length]; exact hy)
  have key : ∀ f, Fmd fm f → ∀ z ∈ q, z.kind = 3 → z.a = f.a → z.r = f.r → (max z.lo f.lo ≤ min z.hi f.hi → cL_ z f ∈ q) ∧ (min z.hi f.hi < max z.lo f.lo → aq_ z.a [33] ∈ q) := by
    intro f hf
    induction hf with
    | @base f hb =>
      intro z hz hk ha hr'
      obtain ⟨hfq, hfk⟩ := inv.fmq f hb
      have ez := (fb_ (inv.form z hz) hk).1
      have ef := (fb_ (inv.form f hfq) hfk).1
      rw [← ha, ← hr'] at ef
      refine ⟨fun hl => hcl _ (.r12 (by rw [← ez]; exact hz) (by rw [← ef]; exact hfq) (.inr (by rw [← ef]; exact hb)) hl), fun hl => hcl _ (.r13 (r := z.r) (by rw [← ez]; exact hz) (by rw [← ef]; exact hfq) (.inr (by rw [← ef]; exact hb)) hl)⟩
    | @meet y w hy hw ha hr' hl ih1 ih2 =>
      intro z hz hk hza hzr
      have hza' : z.a = y.a := hza
      have hzr' : z.r = y.r := hzr
      obtain ⟨i1, i2⟩ := ih1 z hz hk hza' hzr'
      have hlo : (cL_ y w).lo = max y.lo w.lo := rfl
      have hhi : (cL_ y w).hi = min y.hi w.hi := rfl
      rw [hlo, hhi]
      by_cases hc : max z.lo y.lo ≤ min z.hi y.hi
      · have h1 := i1 hc
        obtain ⟨j1, j2⟩ := ih2 (cL_ z y) h1 rfl (by rw [ha, ← hza']; rfl) (by rw [hr', ← hzr']; rfl)
        have e1 : (cL_ z y).lo = max z.lo y.lo := rfl
        have e2 : (cL_ z y).hi = min z.hi y.hi := rfl
        rw [e1, e2] at j1 j2
        refine ⟨fun hl' => ?_, fun hl' => j2 (by rw [Int.max_assoc, Int.min_assoc]; exact hl')⟩
        have := j1 (by rw [Int.max_assoc, Int.min_assoc]; exact hl')
        have e : cL_ (cL_ z y) w = cL_ z (cL_ y w) := by
          simp only [cL_, at_]
          rw [Int.max_assoc, Int.min_assoc]
        rw [← e]; exact this
      · exact ⟨fun hl' => absurd (mm_le hl') hc, fun _ => i2 (Int.not_le.1 hc)⟩
  have key2 : ∀ {a r : Str} {lo hi lo' hi' : Int}, at_ a r lo hi ∈ q → at_ a r lo' hi' ∈ q → (max lo lo' ≤ min hi hi' → at_ a r (max lo lo') (min hi hi') ∈ q) ∧ (min hi hi' < max lo lo' → aq_ a [33] ∈ q) := fun h h' => key _ (inv.firm _ h' rfl) _ h rfl rfl rfl
  cases hy with
  | r1 h => exact hcl _ (.r1 h)
  | r2 h => exact hcl _ (.r2 h)
  | r10 hx hk h => exact hcl _ (.r10 hx hk h)
  | r3 hx hk h => exact hcl _ (.r3 hx hk h)
  | r4 hx hk h h' => exact hcl _ (.r4 hx hk h h')
  | r5 hx hk h => exact hcl _ (.r5 hx hk h)
  | r6 hx hk h => exact hcl _ (.r6 hx hk h)
  | r7 hx hk h h' => exact hcl _ (.r7 hx hk h h')
  | r8 hx hk h h' => exact hcl _ (.r8 hx hk h h')
  | r9 h h' => exact hcl _ (.r9 h h')
  | r11 hx hk h => exact hcl _ (.r11 hx hk h)
  | r12 h h' hm hl => exact (key2 h h').1 hl
  | r13 h h' hm hl => exact (key2 h h').2 hl
  | r14 hx hk h h1 h2 => exact hcl _ (.r14 hx hk h h1 h2)
end
def dG_ (loops : List Str) (A : List Str) : List Fc := A.flatMap fun a => aq_ a a :: aq_ a [42] :: loops.map fun r => av_ a r a
theorem gT_ {ps : List Pc} {A : List Str} {S : Fc → Prop} {M : Fc → Fc → Prop} : ∀ y ∈ dG_ (am_ ps) A, One ps A S M y := by
  intro y hy
  obtain ⟨a, ha, hy⟩ := List.mem_flatMap.1 hy
  simp only [List.mem_cons] at hy
  rcases hy with rfl | rfl | hy
  · exact .r1 ha
  · exact .r2 ha
  · obtain ⟨r, hr, rfl⟩ := List.mem_map.1 hy
    obtain ⟨z, hz, rfl⟩ := List.mem_map.1 hr
    obtain ⟨h1, h2⟩ := List.mem_filter.1 hz
    exact .r10 h1 (of_decide_eq_true h2) ha
theorem eG_ {ps : List Pc} {A : List Str} {a : Str} (ha : a ∈ A) : aq_ a a ∈ dG_ (am_ ps) A ∧ aq_ a [42] ∈ dG_ (am_ ps) A ∧ ∀ z ∈ ps, z.kind = 7 → av_ a z.r a ∈ dG_ (am_ ps) A := by
  refine ⟨List.mem_flatMap.2 ⟨a, ha, by simp⟩, List.mem_flatMap.2 ⟨a, ha, by simp⟩, fun z hz hk => List.mem_flatMap.2 ⟨a, ha, ?_⟩⟩
  exact List.mem_cons_of_mem _ (List.mem_cons_of_mem _ (List.mem_map.2 ⟨z.r, List.mem_map.2 ⟨z, List.mem_filter.2 ⟨hz, decide_eq_true hk⟩, rfl⟩, rfl⟩))
structure LoopA (ps : List Pc) (A : List Str) (m n : Nat) (q fm : List Fc) (x : Ix) : Prop where
  nd : q.Nodup
  len : q.length ≤ m + 1
  le : n ≤ q.length
  der : ∀ y ∈ q, Der ps A y
  ix : x.of (· ∈ q.take n) (· ∈ fm)
  inv : q.length ≤ m → InvA ps A m n q fm x
section
variable {ps : List Pc} {A : List Str} {m n : Nat} {q fm : List Fc} {x : Ix} {f : Fc}
theorem jY_ (hr : ∀ x ∈ ps, x.vok) {q : List Fc} (hq : emits (be_ m) (dG_ (am_ ps) A) [] = q) : LoopA ps A m 0 q [] Ix.nil := by
  have hmem : ∀ y ∈ q, y ∈ dG_ (am_ ps) A := fun y hy => by rw [← hq] at hy; exact (en_ m _ _ y hy).elim (fun h => by simp at h) id
  have hder : ∀ y ∈ q, Der ps A y := fun y hy => Der.step (gT_ y (hmem y hy))
  have hnd : q.Nodup := by rw [← hq]; exact fJ_ m _ _ List.nodup_nil
  have hix : Ix.nil.of (· ∈ q.take 0) (· ∈ ([] : List Fc)) := by
    have e : (fun y => y ∈ q.take 0) = (fun _ => False) := funext fun y => by simp
    rw [e]; exact Ix.of_nil _
  refine ⟨hnd, by rw [← hq]; exact ja_ m _ _ (by simp), Nat.zero_le _, hder, hix, fun hl => ⟨hnd, hl, Nat.zero_le _, hder, fun y hy => (hder y hy).form hr, hix, by simp, fun y hy hk => ?_, fun a ha => ?_, fun y hy => ?_⟩⟩
  · exfalso
    obtain ⟨a, _, h⟩ := List.mem_flatMap.1 (hmem y hy)
    simp only [List.mem_cons] at h
    rcases h with rfl | rfl | h
    · simp [aq_] at hk
    · simp [aq_] at hk
    · obtain ⟨r, _, rfl⟩ := List.mem_map.1 h
      simp [av_] at hk
  · obtain ⟨g1, g2, g3⟩ := eG_ (ps := ps) ha
    rw [← hq] at hl ⊢
    exact ⟨fK_ m _ _ hl _ g1, fK_ m _ _ hl _ g2, fun z hz hk => fK_ m _ _ hl _ (g3 z hz hk)⟩
  · rw [← hq] at hl
    have B : ∀ a ∈ A, _ := fun a ha => eG_ (ps := ps) ha
    have hin : ∀ z ∈ dG_ (am_ ps) A, z ∈ q := fun z hz => by rw [← hq]; exact fK_ m _ _ hl z hz
    cases hy with
    | r1 h => exact hin _ (B _ h).1
    | r2 h => exact hin _ (B _ h).2.1
    | r10 hx hk h => exact hin _ ((B _ h).2.2 _ hx hk)
    | r3 hx hk h => simp at h
    | r4 hx hk h h' => simp at h
    | r5 hx hk h => simp at h
    | r6 hx hk h => simp at h
    | r7 hx hk h h' => simp at h
    | r8 hx hk h h' => simp at h
    | r9 h h' => simp at h
    | r11 hx hk h => simp at h
    | r12 h h' hm hl => simp at h
    | r13 h h' hm hl => simp at h
    | r14 hx hk h h1 h2 => simp at h
theorem bU_ (hr : ∀ x ∈ ps, x.vok) (h : LoopA ps A m n q fm x) (hn : q[n]? = some f) (j : Nat) {s' : List Fc × List Fc} (hs : rls (be_ m) idk (aF_ ps) (x.add (decide (f ∈ fm)) f) f j (q, fm) = s') :
    s'.1.Nodup ∧ s'.1.length ≤ m + 1 ∧ (∀ y ∈ s'.1, Der ps A y) ∧ ∃ t, s'.1 = q ++ t := by
  have hfq : f ∈ q := List.mem_of_getElem? hn
  have hSq : ∀ y, (y ∈ q.take n ∨ y = f) → y ∈ q := fun y hy => hy.elim (fun h => List.mem_of_mem_take h) (fun h => h ▸ hfq)
  obtain ⟨L, hL⟩ := gD_ (ps := ps) (x := x.add (decide (f ∈ fm)) f) (f := f) (dP_ m) j (q, fm)
  rw [hs] at hL
  refine ⟨by rw [hL]; exact fJ_ m L q h.nd, by rw [hL]; exact ja_ m L q h.len, ?_, by rw [hL]; exact gy_ m L q⟩
  rw [← hs]
  exact hr_ hr (Ix.of_add h.ix f (by simp)) (fun y hy => (h.der y (hSq y hy)).form hr) ((h.der f hfq).form hr) (q, fm) hSq hfq h.der j
theorem fX_ (hr : ∀ x ∈ ps, x.vok) (h : LoopA ps A m n q fm x) (hn : q[n]? = some f) {s' : List Fc × List Fc} (hs : rls (be_ m) idk (aF_ ps) (x.add (decide (f ∈ fm)) f) f (nrl f) (q, fm) = s') (hl : s'.1.length ≤ m) :
    LoopA ps A m (n + 1) s'.1 s'.2 (x.add (decide (f ∈ fm)) f) := by
  obtain ⟨_, _, _, t, ht⟩ := bU_ hr h hn (nrl f) hs
  have hi := ne_ hr (h.inv (by rw [ht, List.length_append] at hl; omega)) hn hs hl
  exact ⟨hi.nd, by have := hi.len; omega, hi.le, hi.der, hi.ix, fun _ => hi⟩
theorem kB_ (h : LoopA ps A m q.length q fm x) (hl : q.length ≤ m) (y : Fc) : Der ps A y ↔ y ∈ q := nf_ (h.inv hl) y
end
theorem zf_eq (x : Pc) : ∃ n, { x.zf with frm := n } = x := ⟨x.frm, rfl⟩
theorem js_ {p : List Pc} {A : List Str} {y : Fc} : Der (uniq [] p) A y ↔ Der p A y := by
  constructor
  · refine Der.mono (fun x hx => ?_) (fun _ h => h)
    rcases (gd_ p [] x).1 hx with h | ⟨z, hz, rfl⟩
    · simp at h
    · exact ⟨z, hz, 0, rfl⟩
  · exact Der.mono (fun x hx => ⟨x.zf, (gd_ p [] _).2 (.inr ⟨x, hx, rfl⟩), zf_eq x⟩) (fun _ h => h)
theorem ms_ {p : List Pc} (h : ∀ x ∈ p, x.vok) : ∀ x ∈ uniq [] p, x.vok := fun x hx => by
  rcases (gd_ p [] x).1 hx with h1 | ⟨z, hz, rfl⟩
  · simp at h1
  · exact ⟨(h z hz).rok, (h z hz).num⟩
def Fc.lt (x y : Fc) : Prop := x.kind < y.kind ∨ x.kind = y.kind ∧ (x.a < y.a ∨ x.a = y.a ∧ (x.b < y.b ∨ x.b = y.b ∧ (x.r < y.r ∨ x.r = y.r ∧ (x.lo < y.lo ∨ x.lo = y.lo ∧ x.hi < y.hi))))
instance (x y : Fc) : Decidable (Fc.lt x y) := by unfold Fc.lt; exact inferInstance
theorem dy_ (x : Str) : ¬ x < x := List.lt_irrefl x
theorem iI_ (x y : Str) : x < y ∨ x = y ∨ y < x := by
  by_cases h : x < y
  · exact .inl h
  · by_cases h' : y < x
    · exact .inr (.inr h')
    · exact .inr (.inl (List.le_antisymm (List.not_lt.1 h') (List.not_lt.1 h)))
theorem Fc.lt_irr (x : Fc) : ¬ x.lt x := by
  unfold Fc.lt
  simp [dy_]
theorem Fc.lt_tri (x y : Fc) : x.lt y ∨ x = y ∨ y.lt x := by
  unfold Fc.lt
  rcases Int.lt_trichotomy x.kind y.kind with h | h | h
  · exact .inl (.inl h)
  · rcases iI_ x.a y.a with h1 | h1 | h1
    · exact .inl (.inr ⟨h, .inl h1⟩)
    · rcases iI_ x.b y.b with h2 | h2 | h2
      · exact .inl (.inr ⟨h, .inr ⟨h1, .inl h2⟩⟩)
      · rcases iI_ x.r y.r with h3 | h3 | h3
        · exact .inl (.inr ⟨h, .inr ⟨h1, .inr ⟨h2, .inl h3⟩⟩⟩)
        · rcases Int.lt_trichotomy x.lo y.lo with h4 | h4 | h4
          · exact .inl (.inr ⟨h, .inr ⟨h1, .inr ⟨h2, .inr ⟨h3, .inl h4⟩⟩⟩⟩)
          · rcases Int.lt_trichotomy x.hi y.hi with h5 | h5 | h5
            · exact .inl (.inr ⟨h, .inr ⟨h1, .inr ⟨h2, .inr ⟨h3, .inr ⟨h4, h5⟩⟩⟩⟩⟩)
            · refine .inr (.inl ?_); cases x; cases y; simp_all
            · exact .inr (.inr (.inr ⟨h.symm, .inr ⟨h1.symm, .inr ⟨h2.symm, .inr ⟨h3.symm, .inr ⟨h4.symm, h5⟩⟩⟩⟩⟩))
          · exact .inr (.inr (.inr ⟨h.symm, .inr ⟨h1.symm, .inr ⟨h2.symm, .inr ⟨h3.symm, .inl h4⟩⟩⟩⟩))
        · exact .inr (.inr (.inr ⟨h.symm, .inr ⟨h1.symm, .inr ⟨h2.symm, .inl h3⟩⟩⟩))
      · exact .inr (.inr (.inr ⟨h.symm, .inr ⟨h1.symm, .inl h2⟩⟩))
    · exact .inr (.inr (.inr ⟨h.symm, .inl h1⟩))
  · exact .inr (.inr (.inl h))
theorem eA_ {α : Type} {lt : α → α → Prop} (ht : ∀ {x y z}, lt x y → lt y z → lt x z) {x y z : α} {P Q R : Prop} (hr : x = y → y = z → P → Q → R) (h1 : lt x y ∨ x = y ∧ P) (h2 : lt y z ∨ y = z ∧ Q) : lt x z ∨ x = z ∧ R := by
  rcases h1 with h1 | ⟨rfl, h1⟩
  · rcases h2 with h2 | ⟨rfl, h2⟩
    · exact .inl (ht h1 h2)
    · exact .inl h1
  · rcases h2 with h2 | ⟨rfl, h2⟩
    · exact .inl h2
    · exact .inr ⟨rfl, hr rfl rfl h1 h2⟩
theorem Fc.lt_trans {x y z : Fc} (h1 : x.lt y) (h2 : y.lt z) : x.lt z :=
  eA_ (lt := fun a b : Int => a < b) Int.lt_trans (fun _ _ => eA_ (lt := fun a b : Str => a < b) List.lt_trans (fun _ _ => eA_ (lt := fun a b : Str => a < b) List.lt_trans (fun _ _ => eA_ (lt := fun a b : Str => a < b) List.lt_trans (fun _ _ => eA_ (lt := fun a b : Int => a < b) Int.lt_trans fun _ _ => Int.lt_trans)))) h1 h2
theorem eb_ {α : Type} {lt : α → α → Prop} (hi : ∀ x, ¬ lt x x) (ht : ∀ {x y z}, lt x y → lt y z → lt x z) : ∀ {l m : List α}, l.Pairwise lt → m.Pairwise lt → (∀ x, x ∈ l ↔ x ∈ m) → l = m
  | [], [], _, _, _ => rfl
  | [], y :: m, _, _, h => by have := (h y).2 (by simp); simp at this
  | x :: l, [], _, _, h => by have := (h x).1 (by simp); simp at this
  | x :: l, y :: m, h1, h2, h => by
    rw [List.pairwise_cons] at h1 h2
    have e : x = y := by
      rcases List.mem_cons.1 ((h x).1 (by simp)) with e | hx
      · exact e
      · rcases List.mem_cons.1 ((h y).2 (by simp)) with e | hy
        · exact e.symm
        · exact absurd (ht (h1.1 y hy) (h2.1 x hx)) (hi x)
    subst e
    congr 1
    refine eb_ hi ht h1.2 h2.2 fun z => ⟨fun hz => ?_, fun hz => ?_⟩
    · rcases List.mem_cons.1 ((h z).1 (by simp [hz])) with rfl | q
      · exact absurd (h1.1 z hz) (hi z)
      · exact q
    · rcases List.mem_cons.1 ((h z).2 (by simp [hz])) with rfl | q
      · exact absurd (h2.1 z hz) (hi z)
      · exact q
abbrev Srt (l : List Fc) : Prop := l.Pairwise Fc.lt
theorem Srt.ext {l m : List Fc} (h1 : Srt l) (h2 : Srt m) (h : ∀ x, x ∈ l ↔ x ∈ m) : l = m := eb_ Fc.lt_irr Fc.lt_trans h1 h2 h
theorem Srt.nodup {l : List Fc} (h : Srt l) : l.Nodup := by
  unfold List.Nodup
  refine List.Pairwise.imp ?_ h
  intro a b hab e
  exact Fc.lt_irr b (e ▸ hab)
def cp_ (p : List Pc) (A : List Str) (m : Nat) : Option (List Fc) → Prop
  | some L => Srt L ∧ (∀ y, y ∈ L ↔ Der p A y) ∧ L.length ≤ m
  | none => ∃ M : List Fc, M.Nodup ∧ (∀ y ∈ M, Der p A y) ∧ m < M.length
theorem ez_ {α : Type} [DecidableEq α] : ∀ {l m : List α}, l.Nodup → (∀ x ∈ l, x ∈ m) → l.length ≤ m.length
  | [], m, _, _ => by simp
  | x :: l, m, h, hs => by
    rw [List.nodup_cons] at h
    have := ez_ (l := l) (m := m.erase x) h.2 fun y hy => by
      have hne : y ≠ x := fun e => h.1 (e ▸ hy)
      exact (List.mem_erase_of_ne hne).2 (hs y (by simp [hy]))
    have hx := hs x (by simp)
    rw [List.length_erase_of_mem hx] at this
    have : 0 < m.length := List.length_pos_of_mem hx
    simp only [List.length_cons]
    omega
theorem cp_.uniq {p : List Pc} {A : List Str} {m : Nat} {r r' : Option (List Fc)} (h : cp_ p A m r) (h' : cp_ p A m r') : r = r' := by
  cases r with
  | none =>
    cases r' with
    | none => rfl
    | some L =>
      obtain ⟨M, h1, h2, h3⟩ := h
      obtain ⟨_, g2, g3⟩ := h'
      have := ez_ h1 fun x hx => (g2 x).2 (h2 x hx)
      omega
  | some L =>
    cases r' with
    | none =>
      obtain ⟨M, h1, h2, h3⟩ := h'
      obtain ⟨_, g2, g3⟩ := h
      have := ez_ h1 fun x hx => (g2 x).2 (h2 x hx)
      omega
    | some L' => rw [h.1.ext h'.1 fun x => by rw [h.2.1, h'.2.1]]
end Go.Vs
namespace Go.Vs
open Go Go.Sx
section
variable {ps : List Pc} {A : List Str} {c : List Fc} {x : Ix} {f : Fc}
theorem Cmpl.up {S Fm kn good good' : Fc → Prop} (h : Cmpl ps S Fm kn good f) (hg : ∀ y, good y → good' y) : Cmpl ps S Fm kn good' f :=
  ⟨fun z a h1 h2 h3 => hg _ (h.c3 z a h1 h2 h3), fun z a h1 h2 h3 h4 => hg _ (h.c4 z a h1 h2 h3 h4), fun z a h1 h2 h3 h4 => hg _ (h.c4' z a h1 h2 h3 h4), fun z a h1 h2 h3 => hg _ (h.c5 z a h1 h2 h3), fun z a b h1 h2 h3 => hg _ (h.c6 z a b h1 h2 h3),
   fun z a b c h1 h2 h3 h4 => hg _ (h.c7 z a b c h1 h2 h3 h4), fun z a b c h1 h2 h3 h4 => hg _ (h.c7' z a b c h1 h2 h3 h4), fun z a b h1 h2 h3 h4 => hg _ (h.c8 z a b h1 h2 h3 h4), fun z a b h1 h2 h3 h4 => hg _ (h.c8' z a b h1 h2 h3 h4), fun a r b h1 h2 => hg _ (h.c9 a r b h1 h2), fun a r b h1 h2 => hg _ (h.c9' a r b h1 h2),
   fun z a h1 h2 h3 => hg _ (h.c11 z a h1 h2 h3), fun y h1 h2 h3 h4 h5 h6 h7 => hg _ (h.c12 y h1 h2 h3 h4 h5 h6 h7), fun y h1 h2 h3 h4 h5 h6 h7 => hg _ (h.c13 y h1 h2 h3 h4 h5 h6 h7), fun z a lo hi h1 h2 h3 h4 h5 => hg _ (h.c14 z a lo hi h1 h2 h3 h4 h5)⟩
theorem no_ {good : Fc → Prop} (hb : ∀ y ∈ dG_ (am_ ps) A, good y) (hc : ∀ f ∈ c, Cmpl ps (· ∈ c) (fun _ => True) (· ∈ c) good f) {y : Fc} (h : eI_ ps A (· ∈ c) y) : good y := by
  cases h with
  | r1 h => exact hb _ (eG_ h).1
  | r2 h => exact hb _ (eG_ h).2.1
  | r10 hx hk h => exact hb _ ((eG_ h).2.2 _ hx hk)
  | r3 hx hk h => exact (hc _ h).c3 _ _ hx hk rfl
  | r4 hx hk h h' => exact (hc _ h).c4 _ _ hx hk rfl h'
  | r5 hx hk h => exact (hc _ h).c5 _ _ hx hk rfl
  | r6 hx hk h => exact (hc _ h).c6 _ _ _ hx hk rfl
  | r7 hx hk h h' => exact (hc _ h).c7 _ _ _ _ hx hk rfl h'
  | r8 hx hk h h' => exact (hc _ h).c8 _ _ _ hx hk rfl h'
  | r9 h h' => exact (hc _ h).c9 _ _ _ rfl h'
  | r11 hx hk h => exact (hc _ h).c11 _ _ hx hk rfl
  | r12 h h' hm hl => exact (hc _ h).c12 _ rfl h' rfl rfl rfl (.inl trivial) hl
  | r13 h h' hm hl => exact (hc _ h).c13 _ rfl h' rfl rfl rfl (.inl trivial) hl
  | r14 hx hk h h1 h2 => exact (hc _ h).c14 _ _ _ _ hx hk rfl h1 h2
end
def bT_ (l : List Fc) (f : Fc) : Nat := l.countP fun y => decide (y.lt f)
def kH_ (l : List Fc) (f : Fc) : List Fc := if f ∈ l then l else l.take (bT_ l f) ++ f :: l.drop (bT_ l f)
theorem lJ_ (l : List Fc) (f : Fc) : bT_ l f ≤ l.length := List.countP_le_length
theorem fj_ : ∀ {l : List Fc} (f : Fc), Srt l → (∀ y ∈ l.take (bT_ l f), y.lt f) ∧ (∀ y ∈ l.drop (bT_ l f), ¬ y.lt f)
  | [], f, _ => by simp [bT_]
  | x :: l, f, h => by
    rw [Srt, List.pairwise_cons] at h
    obtain ⟨i1, i2⟩ := fj_ f h.2
    by_cases hx : x.lt f
    · have e : bT_ (x :: l) f = bT_ l f + 1 := by simp [bT_, hx]
      rw [e]
      simp only [List.take_succ_cons, List.drop_succ_cons]
      exact ⟨fun y hy => (List.mem_cons.1 hy).elim (fun q => q ▸ hx) (i1 y), i2⟩
    · have hall : ∀ y ∈ l, ¬ y.lt f := fun y hy q => hx (Fc.lt_trans (h.1 y hy) q)
      have e : bT_ (x :: l) f = 0 := by
        simp only [bT_, List.countP_cons, hx, decide_false, Bool.false_eq_true, if_false, Nat.add_zero]
        rw [List.countP_eq_zero]
        intro y hy; simpa using hall y hy
      rw [e]
      simp only [List.take_zero, List.not_mem_nil, false_imp_iff, implies_true, true_and, List.drop_zero]
      intro y hy
      rcases List.mem_cons.1 hy with rfl | hy
      · exact hx
      · exact hall y hy
theorem ni_ (l : List Fc) (f y : Fc) : y ∈ kH_ l f ↔ y ∈ l ∨ y = f := by
  unfold kH_
  split
  · rename_i h
    exact ⟨.inl, fun q => q.elim id fun e => e ▸ h⟩
  · have : y ∈ l ↔ y ∈ l.take (bT_ l f) ∨ y ∈ l.drop (bT_ l f) := by rw [← List.mem_append, List.take_append_drop]
    rw [this]
    simp only [List.mem_append, List.mem_cons]
    constructor
    · rintro (h | h | h)
      · exact .inl (.inl h)
      · exact .inr h
      · exact .inl (.inr h)
    · rintro ((h | h) | h)
      · exact .inl h
      · exact .inr (.inr h)
      · exact .inr (.inl h)
theorem nh_ {l : List Fc} (f : Fc) (h : Srt l) : Srt (kH_ l f) := by
  unfold kH_
  split
  · exact h
  · rename_i hn
    obtain ⟨h1, h2⟩ := fj_ f h
    have hd : ∀ y ∈ l.drop (bT_ l f), f.lt y := fun y hy => by
      rcases Fc.lt_tri f y with q | q | q
      · exact q
      · exact absurd (List.mem_of_mem_drop hy) (q ▸ hn)
      · exact absurd q (h2 y hy)
    rw [Srt, List.pairwise_append]
    refine ⟨h.sublist (List.take_sublist _ _), List.pairwise_cons.2 ⟨hd, h.sublist (List.drop_sublist _ _)⟩, fun a ha b hb => ?_⟩
    rcases List.mem_cons.1 hb with rfl | hb
    · exact h1 a ha
    · exact Fc.lt_trans (h1 a ha) (hd b hb)
theorem iC_ {l : List Fc} (h : Srt l) (f : Fc) : f ∈ l ↔ l[bT_ l f]? = some f := by
  obtain ⟨h1, h2⟩ := fj_ f h
  refine ⟨fun hf => ?_, fun hf => List.mem_of_getElem? hf⟩
  rw [← List.take_append_drop (bT_ l f) l, List.mem_append] at hf
  rcases hf with hf | hf
  · exact absurd (h1 f hf) (Fc.lt_irr f)
  · have hs : Srt (l.drop (bT_ l f)) := h.sublist (List.drop_sublist _ _)
    cases hd : l.drop (bT_ l f) with
    | nil => rw [hd] at hf; simp at hf
    | cons z r =>
      have hz : l[bT_ l f]? = some z := by
        have := congrArg (fun q => q[0]?) hd
        simpa [List.getElem?_drop] using this
      rw [hd] at hf hs h2
      rcases List.mem_cons.1 hf with rfl | hf
      · exact hz
      · rw [Srt, List.pairwise_cons] at hs
        exact absurd (hs.1 f hf) (h2 z (by simp))
def subA (p : List Pc) (l : List Fc) (f : Fc) : List Fc := p.flatMap fun x =>
  if x.kind = 1 ∧ x.a = f.b then [aq_ f.a x.c]
  else if x.kind = 2 ∧ (x.a = f.b ∧ aq_ f.a x.b ∈ l ∨ x.b = f.b ∧ aq_ f.a x.a ∈ l) then [aq_ f.a x.c]
  else if x.kind = 3 ∧ x.a = f.b then [av_ f.a x.r x.c]
  else if x.kind = 8 ∧ x.a = f.b then [at_ f.a x.r x.lo x.hi]
  else []
def subBp (p : List Pc) (f y : Fc) : List Fc := p.flatMap fun x => if x.kind = 4 ∧ x.r = y.r ∧ x.a = f.b then [aq_ y.a x.c] else []
def subB (p : List Pc) (f y : Fc) : List Fc := if y.kind ≠ 2 ∨ y.b ≠ f.a then [] else (if f.b = [33] then [aq_ y.a [33]] else []) ++ subBp p f y
def subS (p : List Pc) (l : List Fc) (f : Fc) : List Fc := subA p l f ++ l.flatMap (subB p f)
def lg_ (x : Pc) (f y : Fc) : List Fc := if y.kind ≠ 2 then [] else (if x.r = f.r ∧ y.a = f.b ∧ y.r = x.s then [av_ f.a x.t y.b] else []) ++ (if x.s = f.r ∧ y.b = f.a ∧ y.r = x.r then [av_ y.a x.t f.b] else [])
def iz_ (l : List Fc) (f : Fc) (x : Pc) : List Fc :=
  if x.kind = 5 ∧ x.r = f.r then [av_ f.a x.t f.b]
  else if x.kind = 4 ∧ x.r = f.r ∧ aq_ f.b x.a ∈ l then [aq_ f.a x.c]
  else if x.kind = 6 then l.flatMap (lg_ x f) else []
def oA_ (p : List Pc) (l : List Fc) (f : Fc) : List Fc := (if aq_ f.b [33] ∈ l then [aq_ f.a [33]] else []) ++ p.flatMap (iz_ l f)
def iL_ (f y : Fc) : List Fc := if y.kind ≠ 3 ∨ y.a ≠ f.a ∨ y.r ≠ f.r then [] else if max f.lo y.lo ≤ min f.hi y.hi then [cL_ f y] else [aq_ f.a [33]]
def kv_ (f : Fc) (x : Pc) : List Fc := if x.kind = 9 ∧ x.r = f.r ∧ x.lo ≤ f.lo ∧ f.hi ≤ x.hi then [aq_ f.a x.c] else []
def mJ_ (p : List Pc) (l : List Fc) (f : Fc) : List Fc := l.flatMap (iL_ f) ++ p.flatMap (kv_ f)
def ev_ (p : List Pc) (l : List Fc) (f : Fc) : List Fc := if f.kind = 1 then subS p l f else if f.kind = 2 then oA_ p l f else mJ_ p l f
def gK_ (p : List Pc) (A : List Str) : List Fc := A.flatMap fun a => aq_ a a :: aq_ a [42] :: (p.filter fun x => decide (x.kind = 7)).map fun x => av_ a x.r a
theorem iE_ (p : List Pc) (A : List Str) : gK_ p A = dG_ (am_ p) A := by
  unfold gK_ dG_ am_
  simp [List.map_map, Function.comp_def]
section
variable {p : List Pc} {A : List Str} {l : List Fc} {f : Fc}
theorem jw_ (hf : f ∈ l) (hF : ∀ y ∈ l, y.form) : ∀ y ∈ ev_ p l f, eI_ p A (· ∈ l) y := by
  have hff := hF f hf
  have hk := fG_ hff
  intro y hy
  unfold ev_ at hy
  split at hy
  · rename_i h1
    have ef := hQ_ hff h1
    rcases List.mem_append.1 hy with hy | hy
    · obtain ⟨x, hx, hy⟩ := List.mem_flatMap.1 hy
      split at hy
      · rename_i hc
        simp at hy; subst hy
        exact .r3 hx hc.1 (by rw [hc.2, ← ef]; exact hf)
      · split at hy
        · rename_i hc
          simp at hy; subst hy
          rcases hc.2 with h | h
          · exact .r4 hx hc.1 (by rw [h.1, ← ef]; exact hf) h.2
          · exact .r4 hx hc.1 h.2 (by rw [h.1, ← ef]; exact hf)
        · split at hy
          · rename_i hc
            simp at hy; subst hy
            exact .r5 hx hc.1 (by rw [hc.2, ← ef]; exact hf)
          · split at hy
            · rename_i hc
              simp at hy; subst hy
              exact .r11 hx hc.1 (by rw [hc.2, ← ef]; exact hf)
            · simp at hy
    · obtain ⟨g, hg, hy⟩ := List.mem_flatMap.1 hy
      unfold subB at hy
      split at hy
      · simp at hy
      · rename_i hc
        simp only [not_or, Decidable.not_not] at hc
        have eg := (gt_ (hF g hg) hc.1).1
        rcases List.mem_append.1 hy with hy | hy
        · split at hy
          · rename_i hb
            simp at hy; subst hy
            exact .r9 (r := g.r) (b := g.b) (by rw [← eg]; exact hg) (by rw [hc.2, ← hb, ← ef]; exact hf)
          · simp at hy
        · obtain ⟨x, hx, hy⟩ := List.mem_flatMap.1 hy
          split at hy
          · rename_i hd
            simp at hy; subst hy
            exact .r8 (b := g.b) hx hd.1 (by rw [hd.2.1, ← eg]; exact hg) (by rw [hc.2, hd.2.2, ← ef]; exact hf)
          · simp at hy
  · split at hy
    · rename_i h2
      have ef := (gt_ hff h2).1
      rcases List.mem_append.1 hy with hy | hy
      · split at hy
        · rename_i hb
          simp at hy; subst hy
          exact .r9 (r := f.r) (b := f.b) (by rw [← ef]; exact hf) hb
        · simp at hy
      · obtain ⟨x, hx, hy⟩ := List.mem_flatMap.1 hy
        unfold iz_ at hy
        split at hy
        · rename_i hc
          simp at hy; subst hy
          exact .r6 hx hc.1 (by rw [hc.2, ← ef]; exact hf)
        · split at hy
          · rename_i hc
            simp at hy; subst hy
            exact .r8 (b := f.b) hx hc.1 (by rw [hc.2.1, ← ef]; exact hf) hc.2.2
          · split at hy
            · rename_i hc
              obtain ⟨g, hg, hy⟩ := List.mem_flatMap.1 hy
              unfold lg_ at hy
              split at hy
              · simp at hy
              · rename_i hgk
                have eg := (gt_ (hF g hg) (Decidable.not_not.1 hgk)).1
                rcases List.mem_append.1 hy with hy | hy
                · split at hy
                  · rename_i hd
                    simp at hy; subst hy
                    exact .r7 (b := f.b) hx hc (by rw [hd.1, ← ef]; exact hf) (by rw [← hd.2.2, ← hd.2.1, ← eg]; exact hg)
                  · simp at hy
                · split at hy
                  · rename_i hd
                    simp at hy; subst hy
                    exact .r7 (b := f.a) hx hc (by rw [← hd.2.2, ← hd.2.1, ← eg]; exact hg) (by rw [hd.1, ← ef]; exact hf)
                  · simp at hy
            · simp at hy
    · rename_i h1 h2
      have h3 : f.kind = 3 := by omega
      have ef := (fb_ hff h3).1
      rcases List.mem_append.1 hy with hy | hy
      · obtain ⟨g, hg, hy⟩ := List.mem_flatMap.1 hy
        unfold iL_ at hy
        split at hy
        · simp at hy
        · rename_i hc
          simp only [not_or, Decidable.not_not] at hc
          have eg := (fb_ (hF g hg) hc.1).1
          rw [hc.2.1, hc.2.2] at eg
          split at hy
          · rename_i hl
            simp at hy; subst hy
            exact .r12 (by rw [← ef]; exact hf) (by rw [← eg]; exact hg) trivial hl
          · rename_i hl
            simp at hy; subst hy
            exact .r13 (r := f.r) (by rw [← ef]; exact hf) (by rw [← eg]; exact hg) trivial (Int.not_le.1 hl)
      · obtain ⟨x, hx, hy⟩ := List.mem_flatMap.1 hy
        unfold kv_ at hy
        split at hy
        · rename_i hc
          simp at hy; subst hy
          exact .r14 hx hc.1 (by rw [hc.2.1, ← ef]; exact hf) hc.2.2.1 hc.2.2.2
        · simp at hy
theorem kr_ : Cmpl p (· ∈ l) (fun _ => True) (· ∈ l) (· ∈ ev_ p l f) f := by
  have s1 : ∀ {a b y}, f = aq_ a b → (y ∈ subS p l f) → y ∈ ev_ p l f := fun e h => by unfold ev_; rw [if_pos (by rw [e]; rfl)]; exact h
  have s2 : ∀ {a r b y}, f = av_ a r b → (y ∈ oA_ p l f) → y ∈ ev_ p l f := fun e h => by unfold ev_; rw [if_neg (by rw [e]; simp [av_]), if_pos (by rw [e]; rfl)]; exact h
  have s3 : ∀ {y}, f.kind = 3 → (y ∈ mJ_ p l f) → y ∈ ev_ p l f := fun e h => by unfold ev_; rw [if_neg (by rw [e]; decide), if_neg (by rw [e]; decide)]; exact h
  refine ⟨?_, ?_, ?_, ?_, ?_, ?_, ?_, ?_, ?_, ?_, ?_, ?_, ?_, ?_, ?_⟩
  · intro z a hz hk e
    refine s1 e (List.mem_append_left _ (List.mem_flatMap.2 ⟨z, hz, ?_⟩))
    rw [e, if_pos ⟨hk, rfl⟩]; simp [aq_]
  · intro z a hz hk e h
    refine s1 e (List.mem_append_left _ (List.mem_flatMap.2 ⟨z, hz, ?_⟩))
    rw [e, if_neg (by rw [hk]; simp), if_pos ⟨hk, .inl ⟨rfl, h⟩⟩]; simp [aq_]
  · intro z a hz hk e h
    refine s1 e (List.mem_append_left _ (List.mem_flatMap.2 ⟨z, hz, ?_⟩))
    rw [e, if_neg (by rw [hk]; simp), if_pos ⟨hk, .inr ⟨rfl, h⟩⟩]; simp [aq_]
  · intro z a hz hk e
    refine s1 e (List.mem_append_left _ (List.mem_flatMap.2 ⟨z, hz, ?_⟩))
    rw [e, if_neg (by rw [hk]; simp), if_neg (by rw [hk]; simp), if_pos ⟨hk, rfl⟩]; simp [aq_]
  · intro z a b hz hk e
    refine s2 e (List.mem_append_right _ (List.mem_flatMap.2 ⟨z, hz, ?_⟩))
    rw [e, iz_, if_pos ⟨hk, rfl⟩]; simp [av_]
  · intro z a b c hz hk e h
    refine s2 e (List.mem_append_right _ (List.mem_flatMap.2 ⟨z, hz, ?_⟩))
    rw [e, iz_, if_neg (by rw [hk]; simp), if_neg (by rw [hk]; simp), if_pos hk]
    refine List.mem_flatMap.2 ⟨_, h, ?_⟩
    rw [lg_, if_neg (by simp [av_])]
    refine List.mem_append_left _ ?_
    rw [if_pos ⟨rfl, rfl, rfl⟩]; simp [av_]
  · intro z a b c hz hk e h
    refine s2 e (List.mem_append_right _ (List.mem_flatMap.2 ⟨z, hz, ?_⟩))
    rw [e, iz_, if_neg (by rw [hk]; simp), if_neg (by rw [hk]; simp), if_pos hk]
    refine List.mem_flatMap.2 ⟨_, h, ?_⟩
    rw [lg_, if_neg (by simp [av_])]
    refine List.mem_append_right _ ?_
    rw [if_pos ⟨rfl, rfl, rfl⟩]; simp [av_]
  · intro z a b hz hk e h
    refine s2 e (List.mem_append_right _ (List.mem_flatMap.2 ⟨z, hz, ?_⟩))
    rw [e, iz_, if_neg (by rw [hk]; simp), if_pos ⟨hk, rfl, h⟩]; simp [av_]
  · intro z a b hz hk e h
    refine s1 e (List.mem_append_right _ (List.mem_flatMap.2 ⟨_, h, ?_⟩))
    rw [subB, if_neg (by rw [e]; simp [av_, aq_])]
    refine List.mem_append_right _ (List.mem_flatMap.2 ⟨z, hz, ?_⟩)
    rw [e, if_pos ⟨hk, rfl, rfl⟩]; simp [av_]
  · intro a r b e h
    refine s2 e (List.mem_append_left _ ?_)
    rw [e, if_pos (show aq_ (av_ a r b).b [33] ∈ l from h)]; simp [av_]
  · intro a r b e h
    refine s1 e (List.mem_append_right _ (List.mem_flatMap.2 ⟨_, h, ?_⟩))
    rw [subB, if_neg (by rw [e]; simp [av_, aq_])]
    refine List.mem_append_left _ ?_
    rw [e, if_pos (show (aq_ b [33]).b = [33] from rfl)]; simp [av_]
  · intro z a hz hk e
    refine s1 e (List.mem_append_left _ (List.mem_flatMap.2 ⟨z, hz, ?_⟩))
    rw [e, if_neg (by rw [hk]; simp), if_neg (by rw [hk]; simp), if_neg (by rw [hk]; simp), if_pos ⟨hk, rfl⟩]; simp [aq_]
  · intro y h3 hy hk ha hr _ hl
    refine s3 h3 (List.mem_append_left _ (List.mem_flatMap.2 ⟨y, hy, ?_⟩))
    rw [iL_, if_neg (by simp [hk, ha, hr]), if_pos hl]; simp
  · intro y h3 hy hk ha hr _ hl
    refine s3 h3 (List.mem_append_left _ (List.mem_flatMap.2 ⟨y, hy, ?_⟩))
    rw [iL_, if_neg (by simp [hk, ha, hr]), if_neg (Int.not_le.2 hl)]; simp
  · intro z a lo hi hz hk e h1 h2
    refine s3 (by rw [e]; rfl) (List.mem_append_right _ (List.mem_flatMap.2 ⟨z, hz, ?_⟩))
    rw [e, kv_, if_pos ⟨hk, rfl, h1, h2⟩]; simp [at_]
theorem oC_ {α β : Type} {g : α → List β} {n : Nat} : ∀ (l : List α), (∀ x ∈ l, (g x).length ≤ n) → (l.flatMap g).length ≤ l.length * n
  | [], _ => by simp
  | x :: l, h => by
    have := oC_ l fun y hy => h y (by simp [hy])
    have hx := h x (by simp)
    simp only [List.flatMap_cons, List.length_append, List.length_cons, Nat.add_mul, Nat.one_mul]
    omega
theorem jS_ (hF : ∀ y ∈ l, y.form) (y : Fc) : y ∈ gK_ p A ++ l.flatMap (fun f => ev_ p l f) ↔ eI_ p A (· ∈ l) y := by
  constructor
  · intro hy
    rcases List.mem_append.1 hy with hy | hy
    · rw [iE_] at hy; exact gT_ y hy
    · obtain ⟨f, hf, hy⟩ := List.mem_flatMap.1 hy
      exact jw_ hf hF y hy
  · intro hy
    refine no_ (c := l) (good := fun y => y ∈ gK_ p A ++ l.flatMap (fun f => ev_ p l f)) (fun y hy => List.mem_append_left _ (by rw [iE_]; exact hy)) (fun f hf => ?_) hy
    exact kr_.up fun y hy => List.mem_append_right _ (List.mem_flatMap.2 ⟨f, hf, hy⟩)
end
def grow1 (p : List Pc) (A : List Str) (l : List Fc) : List Fc := (gK_ p A ++ l.flatMap (fun f => ev_ p l f)).foldl kH_ l
def fM_ (p : List Pc) (A : List Str) : Nat → List Fc
  | 0 => []
  | n + 1 => grow1 p A (fM_ p A n)
theorem hM_ : ∀ (xs l : List Fc) (y : Fc), y ∈ xs.foldl kH_ l ↔ y ∈ l ∨ y ∈ xs
  | [], l, y => by simp
  | x :: xs, l, y => by
    rw [List.foldl_cons, hM_ xs, ni_]
    simp only [List.mem_cons]
    constructor
    · rintro ((h | h) | h)
      · exact .inl h
      · exact .inr (.inl h)
      · exact .inr (.inr h)
    · rintro (h | h | h)
      · exact .inl (.inl h)
      · exact .inl (.inr h)
      · exact .inr h
theorem hL_ : ∀ (xs : List Fc) {l : List Fc}, Srt l → Srt (xs.foldl kH_ l)
  | [], _, h => h
  | x :: xs, _, h => hL_ xs (nh_ x h)
theorem hZ_ (p : List Pc) (A : List Str) : ∀ n, Srt (fM_ p A n)
  | 0 => List.Pairwise.nil
  | n + 1 => hL_ _ (hZ_ p A n)
theorem gz_ {p : List Pc} {A : List Str} (hp : ∀ x ∈ p, x.vok) : ∀ n, ∀ y ∈ fM_ p A n, Der p A y
  | 0, y, hy => by simp [fM_] at hy
  | n + 1, y, hy => by
    have ih := gz_ (A := A) hp n
    rcases (hM_ _ _ y).1 hy with h | h
    · exact ih y h
    · exact Der.step (((jS_ (fun z hz => (ih z hz).form hp) y).1 h).mono (fun x hx => ⟨x, hx, x.frm, rfl⟩) (fun _ h => h) ih (fun _ _ h => h))
theorem gA_ {p : List Pc} {A : List Str} (hp : ∀ x ∈ p, x.vok) (n m : Nat) (hc : ((gK_ p A ++ (fM_ p A n).flatMap (fun f => ev_ p (fM_ p A n) f)).all fun y => decide (y ∈ fM_ p A n)) = true) (hl : (fM_ p A n).length ≤ m) : cp_ p A m (some (fM_ p A n)) := by
  refine ⟨hZ_ p A n, fun y => ⟨gz_ hp n y, fun h => h.least fun z hz => ?_⟩, hl⟩
  exact of_decide_eq_true (List.all_eq_true.1 hc z ((jS_ (fun w hw => (gz_ hp n w hw).form hp) z).2 hz))
theorem mh_ {p : List Pc} {A : List Str} (hp : ∀ x ∈ p, x.vok) (n m : Nat) (hl : m < (fM_ p A n).length) : cp_ p A m none := ⟨fM_ p A n, (hZ_ p A n).nodup, gz_ hp n, hl⟩
end Go.Vs
namespace Go.Sx
open Go Go.Vs
theorem ju_ {P : Program} {f : FuncId} {args : Array Value} {H : Hp} {Γ Γ0 : List Fct} {ι : Type} {ret : ι → Value} {H' : ι → Hp} (B : Hp) (hT : Tri P f args H Γ ret H' (fun _ => []))
    (hΓ : ∀ v : Vw, (∀ p ∈ B, v.im p.1 ∧ v.w.heap[p.1]? = some p.2) → aD_ Γ0 v → aD_ Γ v) : Tri P f args (B ++ H) Γ0 ret (fun x => B ++ H' x) (fun _ => []) := by
  refine ⟨hT.callable, fun v hs hv => ?_⟩
  have hnd := hs.nodup
  rw [List.map_append, List.nodup_append] at hnd
  have hlt : ∀ p ∈ B, p.1 < v.w.heap.size := fun p hp => (Array.getElem?_eq_some_iff.1 (hs.own p (List.mem_append_left _ hp)).1).1
  have h1 : (⟨fun b => v.im b ∨ b ∈ B.map Prod.fst, v.w, v.sl⟩ : Vw).sat H := by
    refine ⟨fun p hp => ⟨(hs.own p (List.mem_append_right _ hp)).1, fun hi => ?_⟩, hnd.2.1, fun b hb => ?_⟩
    · rcases hi with hi | hi
      · exact (hs.own p (List.mem_append_right _ hp)).2 hi
      · exact hnd.2.2 _ hi _ (List.mem_map_of_mem hp) rfl
    · rcases hb with hb | hb
      · exact hs.lt b hb
      · obtain ⟨p, hp, rfl⟩ := List.mem_map.1 hb
        exact hlt p hp
  have hle : v.le ⟨fun b => v.im b ∨ b ∈ B.map Prod.fst, v.w, v.sl⟩ := ⟨fun b h => .inl h, fun _ _ => rfl, rfl⟩
  have h2 := hΓ ⟨fun b => v.im b ∨ b ∈ B.map Prod.fst, v.w, v.sl⟩ (fun p hp => ⟨.inr (List.mem_map_of_mem hp), (hs.own p (List.mem_append_left _ hp)).1⟩) (bP_ hle hv)
  refine (hT.run _ h1 h2).mono ?_
  rintro e w' ⟨x, v', rfl, rfl, g1, _, g3⟩
  have hB : ∀ b, b ∈ B.map Prod.fst → v'.im b := fun b hb => g3.imUp b (.inr hb)
  refine ⟨x, ⟨fun b => v'.im b ∧ b ∉ B.map Prod.fst, v'.w, v'.sl⟩, rfl, rfl, ⟨fun p hp => ?_, ?_, fun b hb => g1.lt b hb.1⟩, trivial, ?_⟩
  · rcases List.mem_append.1 hp with hp | hp
    · refine ⟨?_, fun h => h.2 (List.mem_map_of_mem hp)⟩
      have := (g3.le h1).block p.1 (.inr (List.mem_map_of_mem hp))
      exact this.trans (hs.own p (List.mem_append_left _ hp)).1
    · exact ⟨(g1.own p hp).1, fun h => (g1.own p hp).2 h.1⟩
  · rw [List.map_append, List.nodup_append]
    refine ⟨hnd.1, g1.nodup, fun a ha b hb e => ?_⟩
    subst e
    obtain ⟨p, hp, rfl⟩ := List.mem_map.1 hb
    exact (g1.own p hp).2 (hB _ ha)
  · refine ⟨g3.os, g3.tape, g3.output, g3.size, fun b hb hn => g3.block b hb (fun hm => hn ?_), fun b hb => ⟨g3.imUp b (.inl hb), fun hm => ?_⟩, fun b hb => ?_, fun b hb => ?_, g3.sl, g3.dr⟩
    · rw [List.map_append]; exact List.mem_append_right _ hm
    · obtain ⟨p, hp, rfl⟩ := List.mem_map.1 hm
      exact (hs.own p (List.mem_append_left _ hp)).2 hb
    · rcases g3.imNew b hb.1 with (h | h) | h | h
      · exact .inl h
      · exact absurd h hb.2
      · exact .inr (.inl (by rw [List.map_append]; exact List.mem_append_right _ h))
      · exact .inr (.inr h)
    · rw [List.map_append] at hb ⊢
      rcases List.mem_append.1 hb with h | h
      · exact .inl (List.mem_append_left _ h)
      · exact (g3.hNew b h).imp (List.mem_append_right _) id
structure KeyT (P : Program) (kt : TypeId) {K : Type} [DecidableEq K] (kv : K → Value) : Prop where
  ok : ∀ k, fP_ P kt (kv k)
  nf : ∀ (k : K) (es : List MapEntry) (ks : List K), es.map (·.key) = ks.map kv → k ∉ ks → dn_ P kt (kv k) es none
  sf : ∀ (k : K) (es : List MapEntry) (ks : List K) (i : Nat) (e : MapEntry), es.map (·.key) = ks.map kv → ks.Nodup → ks[i]? = some k → es[i]? = some e → dn_ P kt (kv k) es (some (i, e.val))
  same : ∀ k, Instr.sameBits 10000 (kv k) (kv k) = true
section
variable {P : Program}
theorem ia_ (a b : List UInt8) : ((⟨a.toArray⟩ : ByteArray) == ⟨b.toArray⟩) = decide (a = b) := by
  show (a.toArray == b.toArray) = _
  rw [Bool.eq_iff_iff]
  simp
theorem na_ {kt : TypeId} (hu : P.underlying kt = some .string) : KeyT P kt str where
  ok := fun k e w => by
    have key : ∀ m, (Instr.checkKey e (m + 1) kt (str k)).run P w = .ok () w := fun m => by simp [Instr.checkKey, run_underlying hu, str]
    exact key 9999
  nf := fun k es ks h hk => fH_ hu (by
    have : ∀ (ks : List Str) (es : List MapEntry) (i : Nat), es.map (·.key) = ks.map str → k ∉ ks → Instr.findNow .string (str k) es i = some none := by
      intro ks
      induction ks with
      | nil => intro es i h _; have : es = [] := by simpa using h
               subst this; rfl
      | cons q ks ih =>
        intro es i h hk
        cases es with
        | nil => simp at h
        | cons e es =>
          simp only [List.map_cons, List.cons.injEq] at h
          simp only [List.mem_cons, not_or] at hk
          have hs : Instr.sameNow .string (str k) e.key = some false := by
            rw [h.1]
            show some ((⟨k.toArray⟩ : ByteArray) == ⟨q.toArray⟩) = some false
            rw [ia_, decide_eq_false hk.1]
          simp only [Instr.findNow, hs]
          exact ih es (i + 1) h.2 hk.2
    exact this ks es 0 h hk)
  sf := fun k es ks i e h hn hi he => fH_ hu (by
    have : ∀ (ks : List Str) (es : List MapEntry) (j i : Nat), es.map (·.key) = ks.map str → ks.Nodup → ks[i]? = some k → es[i]? = some e → Instr.findNow .string (str k) es j = some (some (j + i, e.val)) := by
      intro ks
      induction ks with
      | nil => intro es j i _ _ h; simp at h
      | cons q ks ih =>
        intro es j i h hn hi he
        cases es with
        | nil => simp at h
        | cons x es =>
          simp only [List.map_cons, List.cons.injEq] at h
          rw [List.nodup_cons] at hn
          cases i with
          | zero =>
            simp only [List.getElem?_cons_zero, Option.some.injEq] at hi he
            subst hi; subst he
            have hs : Instr.sameNow .string (str q) x.key = some true := by
              rw [h.1]
              show some ((⟨q.toArray⟩ : ByteArray) == ⟨q.toArray⟩) = some true
              rw [ia_, decide_eq_true rfl]
            simp only [Instr.findNow, hs, Nat.add_zero]
          | succ i =>
            simp only [List.getElem?_cons_succ] at hi he
            have hne : k ≠ q := fun e => hn.1 (e ▸ List.mem_of_getElem? hi)
            have hs : Instr.sameNow .string (str k) x.key = some false := by
              rw [h.1]
              show some ((⟨k.toArray⟩ : ByteArray) == ⟨q.toArray⟩) = some false
              rw [ia_, decide_eq_false hne]
            simp only [Instr.findNow, hs]
            rw [ih es (j + 1) i h.2 hn.2 hi he, show j + 1 + i = j + (i + 1) by omega]
    have := this ks es 0 i h hn hi he
    rwa [Nat.zero_add] at this)
  same := fun k => by
    have key : ∀ m, Instr.sameBits m (str k) (str k) = true := fun m => by
      cases m <;> (show ((⟨k.toArray⟩ : ByteArray) == ⟨k.toArray⟩) = true; rw [ia_, decide_eq_true rfl])
    exact key 10000
theorem el_ {K : Type} [DecidableEq K] {kt : TypeId} {fs : Array Field} {kv : K → Value} (hu : P.underlying kt = some (.struct fs)) (hok : ∀ k, fP_ P kt (kv k)) (heq : ∀ p q w, (Op.equal kt (kv p) (kv q)).run P w = .ok (decide (p = q)) w) (hsame : ∀ k, Instr.sameBits 10000 (kv k) (kv k) = true) : KeyT P kt kv where
  ok := hok
  nf := fun k es ks h hk => (iX_ hu heq k ks es h).1 hk
  sf := fun k es ks i e h hn hi he => by
    have key : ∀ (ks : List K) (es : List MapEntry) (j i : Nat), es.map (·.key) = ks.map kv → ks.Nodup → ks[i]? = some k → es[i]? = some e → ∀ w, (Instr.findAsking kt (kv k) es j).run P w = .ok (some (j + i, e.val)) w := by
      intro ks
      induction ks with
      | nil => intro es j i _ _ h; simp at h
      | cons q ks ih =>
        intro es j i h hn hi he w
        cases es with
        | nil => simp at h
        | cons x es =>
          simp only [List.map_cons, List.cons.injEq] at h
          rw [List.nodup_cons] at hn
          cases i with
          | zero =>
            simp only [List.getElem?_cons_zero, Option.some.injEq] at hi he
            subst hi; subst he
            simp only [Instr.findAsking, Sem.run_bind, h.1, heq, Result.andThen_ok, decide_true, if_true, Sem.run_pure, Nat.add_zero]
          | succ i =>
            simp only [List.getElem?_cons_succ] at hi he
            have hne : k ≠ q := fun e => hn.1 (e ▸ List.mem_of_getElem? hi)
            simp only [Instr.findAsking, Sem.run_bind, h.1, heq, Result.andThen_ok, hne, decide_false, Bool.false_eq_true, if_false]
            rw [ih es (j + 1) i h.2 hn.2 hi he w, show j + 1 + i = j + (i + 1) by omega]
    intro w
    have hnow : ∀ (x : MapEntry) (r : List MapEntry), Instr.findNow (.struct fs) (kv k) (x :: r) 0 = none := fun x r => by simp [Instr.findNow, Instr.sameNow]
    cases es with
    | nil => simp at he
    | cons x r =>
      simp only [Instr.findKey, Sem.run_bind, run_underlying hu, Result.andThen_ok, hnow]
      have := key ks (x :: r) 0 i h hn hi he w
      rwa [Nat.zero_add] at this
  same := hsame
end
theorem dz_ (n : Nat) {k : IntKind} (i : Int) : Instr.sameBits n (.int k i) (.int k i) = true := by
  cases n <;> simp [Instr.sameBits]
theorem cF_ (n : Nat) (s : List UInt8) : Instr.sameBits n (str s) (str s) = true := by
  cases n <;> (show ((⟨s.toArray⟩ : ByteArray) == ⟨s.toArray⟩) = true; rw [ia_, decide_eq_true rfl])
theorem gj_ {n : Nat} {l : List Value} (h : ∀ v ∈ l, Instr.sameBits n v v = true) : Instr.sameBits (n + 1) (.agg l.toArray) (.agg l.toArray) = true := by
  simp only [Instr.sameBits, BEq.rfl, Bool.true_and, List.all_eq_true]
  intro p hp
  have : ∀ (l : List Value), (∀ v ∈ l, Instr.sameBits n v v = true) → ∀ p ∈ l.zip l, Instr.sameBits n p.1 p.2 = true := by
    intro l
    induction l with
    | nil => intro _ p hp; simp at hp
    | cons a l ih =>
      intro h p hp
      simp only [List.zip_cons_cons, List.mem_cons] at hp
      rcases hp with rfl | hp
      · exact h a (by simp)
      · exact ih (fun v hv => h v (by simp [hv])) p hp
  exact this l h p hp
structure Born (es : Array MapEntry) (c : Nat) : Prop where
  lt : ∀ x ∈ es.toList, x.born < c
  nd : (es.toList.map (·.born)).Nodup
theorem Born.nil (c : Nat) : Born #[] c := ⟨by simp, by simp⟩
theorem Born.push {es : Array MapEntry} {c : Nat} (h : Born es c) (key val : Value) : Born (es.push ⟨key, val, c⟩) (c + 1) := by
  refine ⟨fun x hx => ?_, ?_⟩
  · rw [Array.toList_push, List.mem_append] at hx
    rcases hx with hx | hx
    · exact Nat.lt_succ_of_lt (h.lt x hx)
    · rw [List.mem_singleton] at hx; rw [hx]; exact Nat.lt_succ_self _
  · rw [Array.toList_push, List.map_append, List.nodup_append]
    refine ⟨h.nd, by simp, fun a ha b hb e => ?_⟩
    obtain ⟨x, hx, rfl⟩ := List.mem_map.1 ha
    simp at hb
    have := h.lt x hx
    omega
theorem Born.modify {es : Array MapEntry} {c : Nat} (h : Born es c) (i : Nat) (f : MapEntry → MapEntry) (hf : ∀ e, (f e).born = e.born) : Born (es.modify i f) c := by
  have hb : (es.modify i f).toList.map (·.born) = es.toList.map (·.born) := by
    apply List.ext_getElem?
    intro j
    simp only [List.getElem?_map, Array.getElem?_toList, Array.getElem?_modify]
    split
    · cases es[j]? <;> simp [hf]
    · rfl
  refine ⟨fun x hx => ?_, by rw [hb]; exact h.nd⟩
  have : x.born ∈ (es.modify i f).toList.map (·.born) := List.mem_map_of_mem hx
  rw [hb] at this
  obtain ⟨y, hy, e⟩ := List.mem_map.1 this
  rw [← e]; exact h.lt y hy
theorem Born.find {es : Array MapEntry} {c i : Nat} {x : MapEntry} (h : Born es c) (hx : es[i]? = some x) : es.findIdx? (fun e => (e.born : Int) == (x.born : Int)) = some i := by
  rw [Array.findIdx?_eq_some_iff_getElem]
  obtain ⟨hi, rfl⟩ := Array.getElem?_eq_some_iff.1 hx
  refine ⟨hi, by simp, fun j hj => ?_⟩
  simp only [beq_eq_false_iff_ne, ne_eq, Bool.not_eq_true]
  intro e
  have hji : j < es.size := Nat.lt_trans hj hi
  have := h.nd
  rw [List.nodup_iff_pairwise_ne, List.pairwise_iff_getElem] at this
  have := this j i (by simpa using hji) (by simpa using hi) hj
  simp at this
  exact this (by exact_mod_cast e)
section
variable {K D : Type} [DecidableEq K] (kv : K → Value) (cells : D → List Value) (e : TypeId) (sz : Nat) (l : List (K × D))
def eJ_ : List K → List MapEntry → Hp → Prop
  | [], [], H => H = []
  | k :: ks, x :: es, H => ∃ Hk Hr, H = Hk ++ Hr ∧ x.key = kv k ∧ aS_ e sz x.val (lat l k).length ((lat l k).flatMap cells) Hk ∧ eJ_ ks es Hr
  | _, _, _ => False
def cR_ (mb : Nat) (H : Hp) : Prop := ∃ ks es c Hr, H = (mb, .map es c) :: Hr ∧ ks.Nodup ∧ (∀ x ∈ l, x.1 ∈ ks) ∧ eJ_ kv cells e sz l ks es.toList Hr ∧ Born es c
end
section
variable {K D : Type} [DecidableEq K] {kv : K → Value} {cells : D → List Value} {e : TypeId} {sz : Nat} {l : List (K × D)}
theorem eJ_.keys : ∀ {ks : List K} {es : List MapEntry} {H : Hp}, eJ_ kv cells e sz l ks es H → es.map (·.key) = ks.map kv
  | [], [], _, _ => rfl
  | k :: ks, x :: es, _, h => by
    obtain ⟨Hk, Hr, _, h1, _, h2⟩ := h
    simp [h1, h2.keys]
  | [], _ :: _, _, h => h.elim
  | _ :: _, [], _, h => h.elim
theorem eJ_.congr {l' : List (K × D)} : ∀ {ks : List K} {es : List MapEntry} {H : Hp}, (∀ k ∈ ks, lat l' k = lat l k) → eJ_ kv cells e sz l ks es H → eJ_ kv cells e sz l' ks es H
  | [], [], _, _, h => h
  | k :: ks, x :: es, _, hl, h => by
    obtain ⟨Hk, Hr, h0, h1, h2, h3⟩ := h
    exact ⟨Hk, Hr, h0, h1, by rw [hl k (by simp)]; exact h2, h3.congr fun q hq => hl q (by simp [hq])⟩
  | [], _ :: _, _, _, h => h.elim
  | _ :: _, [], _, _, h => h.elim
theorem eJ_.get : ∀ {ks : List K} {es : List MapEntry} {H : Hp} {i : Nat} {k : K}, eJ_ kv cells e sz l ks es H → ks.Nodup → ks[i]? = some k → ∃ x Hk Hr, es[i]? = some x ∧ H.Perm (Hk ++ Hr) ∧ x.key = kv k ∧ aS_ e sz x.val (lat l k).length ((lat l k).flatMap cells) Hk ∧
      ∀ (l' : List (K × D)) (y : MapEntry) (Hk' : Hp), y.key = kv k → (∀ q, q ≠ k → lat l' q = lat l q) → aS_ e sz y.val (lat l' k).length ((lat l' k).flatMap cells) Hk' → ∃ H', eJ_ kv cells e sz l' ks (es.set i y) H' ∧ H'.Perm (Hk' ++ Hr)
  | [], _, _, _, _, _, _, h => by simp at h
  | _ :: _, [], _, _, _, h, _, _ => h.elim
  | q :: ks, x :: es, H, 0, k, h, hn, hi => by
    simp only [List.getElem?_cons_zero, Option.some.injEq] at hi
    subst hi
    rw [List.nodup_cons] at hn
    obtain ⟨Hk, Hr, h0, h1, h2, h3⟩ := h
    exact ⟨x, Hk, Hr, rfl, h0 ▸ .refl _, h1, h2, fun l' y Hk' g1 g2 g3 => ⟨Hk' ++ Hr, ⟨Hk', Hr, rfl, g1, g3, h3.congr fun z hz => g2 z (fun e => hn.1 (e ▸ hz))⟩, .refl _⟩⟩
  | q :: ks, x :: es, H, i + 1, k, h, hn, hi => by
    simp only [List.getElem?_cons_succ] at hi
    rw [List.nodup_cons] at hn
    obtain ⟨Hq, Ho, h0, h1, h2, h3⟩ := h
    obtain ⟨y, Hk, Hr, i1, i2, i3, i4, i5⟩ := h3.get hn.2 hi
    have hne : q ≠ k := fun e => hn.1 (e ▸ List.mem_of_getElem? hi)
    refine ⟨y, Hk, Hq ++ Hr, i1, ?_, i3, i4, fun l' z Hk' g1 g2 g3 => ?_⟩
    · rw [h0]
      refine (List.Perm.append_left Hq i2).trans ?_
      rw [← List.append_assoc, ← List.append_assoc]
      exact List.perm_append_comm.append_right _
    · obtain ⟨H', j1, j2⟩ := i5 l' z Hk' g1 g2 g3
      refine ⟨Hq ++ H', ⟨Hq, H', rfl, h1, by rw [g2 q hne]; exact h2, j1⟩, (List.Perm.append_left Hq j2).trans ?_⟩
      rw [← List.append_assoc, ← List.append_assoc]
      exact List.perm_append_comm.append_right _
theorem eJ_.push : ∀ {ks : List K} {es : List MapEntry} {H : Hp} {k : K} {x : MapEntry} {Hk : Hp}, eJ_ kv cells e sz l ks es H → x.key = kv k → aS_ e sz x.val (lat l k).length ((lat l k).flatMap cells) Hk → eJ_ kv cells e sz l (ks ++ [k]) (es ++ [x]) (H ++ Hk)
  | [], [], _, k, x, Hk, h, h1, h2 => by subst h; exact ⟨Hk, [], by simp, h1, h2, rfl⟩
  | q :: ks, y :: es, _, k, x, Hk, h, h1, h2 => by
    obtain ⟨Hq, Hr, rfl, g1, g2, g3⟩ := h
    exact ⟨Hq, Hr ++ Hk, by simp, g1, g2, g3.push h1 h2⟩
  | [], _ :: _, _, _, _, _, h, _, _ => h.elim
  | _ :: _, [], _, _, _, _, h, _, _ => h.elim
theorem fD_ {k q : K} {d : D} (h : q ≠ k) : lat (l ++ [(k, d)]) q = lat l q := by
  rw [hH_]; simp [lat, Ne.symm h]
theorem co_ {k : K} {d : D} : lat (l ++ [(k, d)]) k = lat l k ++ [d] := by
  rw [hH_]; simp [lat]
theorem cR_.open {P : Program} {kt : TypeId} (hK : KeyT P kt kv) {mb : Nat} {H : Hp} (h : cR_ kv cells e sz l mb H) (k : K) :
    ∃ es c sv Hk Hr, H.Perm ((mb, .map es c) :: (Hk ++ Hr)) ∧ aS_ e sz sv (lat l k).length ((lat l k).flatMap cells) Hk ∧
      ((dn_ P kt (kv k) es.toList none ∧ sv = .slice none 0 0 ∧ ∀ d sv' Hk', aS_ e sz sv' (lat (l ++ [(k, d)]) k).length ((lat (l ++ [(k, d)]) k).flatMap cells) Hk' → ∃ H', cR_ kv cells e sz (l ++ [(k, d)]) mb H' ∧ H'.Perm ((mb, .map (es.push ⟨kv k, sv', c⟩) (c + 1)) :: (Hk' ++ Hr))) ∨
       (∃ i x, dn_ P kt (kv k) es.toList (some (i, sv)) ∧ es[i]? = some x ∧ x.key = kv k ∧ x.val = sv ∧ ∀ d sv' Hk', aS_ e sz sv' (lat (l ++ [(k, d)]) k).length ((lat (l ++ [(k, d)]) k).flatMap cells) Hk' → ∃ H', cR_ kv cells e sz (l ++ [(k, d)]) mb H' ∧ H'.Perm ((mb, .map (es.modify i fun y => { y with key := kv k, val := sv' }) c) :: (Hk' ++ Hr)))) := by
  obtain ⟨ks, es, c, Ho, rfl, hn, hl, hm, hbn⟩ := h
  by_cases hk : k ∈ ks
  · obtain ⟨i, hi⟩ := List.getElem?_of_mem hk
    obtain ⟨x, Hk, Hr, g1, g2, g3, g4, g5⟩ := hm.get hn hi
    have hx : es[i]? = some x := by rw [← Array.getElem?_toList]; exact g1
    refine ⟨es, c, x.val, Hk, Hr, .cons _ g2, g4, .inr ⟨i, x, hK.sf k es.toList ks i x hm.keys hn hi g1, hx, g3, rfl, fun d sv' Hk' hs => ?_⟩⟩
    obtain ⟨H', j1, j2⟩ := g5 (l ++ [(k, d)]) { x with key := kv k, val := sv' } Hk' rfl (fun q hq => fD_ hq) hs
    refine ⟨(mb, .map (es.modify i fun y => { y with key := kv k, val := sv' }) c) :: H', ⟨ks, _, c, H', rfl, hn, fun y hy => ?_, ?_, hbn.modify i _ fun _ => rfl⟩, .cons _ j2⟩
    · rcases List.mem_append.1 hy with hy | hy
      · exact hl y hy
      · simp at hy; rw [hy]; exact hk
    · have e1 : (es.modify i fun y => { y with key := kv k, val := sv' }).toList = es.toList.set i { x with key := kv k, val := sv' } := by
        apply List.ext_getElem?
        intro j
        rw [Array.getElem?_toList, Array.getElem?_modify, List.getElem?_set, Array.getElem?_toList]
        by_cases hij : i = j
        · subst hij
          have hlt : i < es.toList.length := (List.getElem?_eq_some_iff.1 g1).1
          simp only [if_true, hx, Option.map_some, if_pos hlt]
        · simp [hij]
      rw [e1]; exact j1
  · have hlat : lat l k = [] := by
      apply List.eq_nil_iff_forall_not_mem.2
      intro d hd
      exact hk (hl _ (cr_.1 hd))
    refine ⟨es, c, .slice none 0 0, [], Ho, .refl _, by rw [hlat]; exact aS_.nil _ _, .inl ⟨hK.nf k es.toList ks hm.keys hk, rfl, fun d sv' Hk' hs => ?_⟩⟩
    refine ⟨(mb, .map (es.push ⟨kv k, sv', c⟩) (c + 1)) :: (Ho ++ Hk'), ⟨ks ++ [k], _, _, _, rfl, ?_, fun y hy => ?_, ?_, hbn.push _ _⟩, .cons _ List.perm_append_comm⟩
    · rw [List.nodup_append]; exact ⟨hn, by simp, fun a ha b hb e => by simp at hb; subst hb; subst e; exact hk ha⟩
    · rcases List.mem_append.1 hy with hy | hy
      · exact List.mem_append_left _ (hl y hy)
      · simp at hy; simp [hy]
    · rw [Array.toList_push]
      exact (hm.congr fun q hq => fD_ (fun (e : q = k) => hk (e ▸ hq))).push rfl hs
structure MOpn (kv : K → Value) (cells : D → List Value) (e : TypeId) (sz : Nat) (l : List (K × D)) (mb : Nat) (k : K) (es : Array MapEntry) (c i : Nat) (st : Int) (Hr : Hp) : Prop where
  find : es.findIdx? (fun x => (x.born : Int) == st) = some i
  close : ∀ d sv' Hk', aS_ e sz sv' (lat (l ++ [(k, d)]) k).length ((lat (l ++ [(k, d)]) k).flatMap cells) Hk' → ∃ H', cR_ kv cells e sz (l ++ [(k, d)]) mb H' ∧ H'.Perm ((mb, .map (es.modify i fun y => { y with val := sv' }) c) :: (Hk' ++ Hr))
theorem kz_ {es : Array MapEntry} {i : Nat} {x : MapEntry} {key : Value} (hx : es[i]? = some x) (hk : x.key = key) : (es.modify i fun y => { y with key := key }) = es := by
  apply Array.ext_getElem?
  intro j
  rw [Array.getElem?_modify]
  by_cases hij : i = j
  · subst hij; rw [if_pos rfl, hx]; simp only [Option.map_some]; rw [← hk]
  · rw [if_neg hij]
theorem cR_.entry {P : Program} {kt : TypeId} (hK : KeyT P kt kv) {mb : Nat} {H : Hp} (h : cR_ kv cells e sz l mb H) (k : K) :
    ∃ es c es' c' i st sv Hk Hr, H.Perm ((mb, .map es c) :: (Hk ++ Hr)) ∧ aS_ e sz sv (lat l k).length ((lat l k).flatMap cells) Hk ∧ MOpn kv cells e sz l mb k es' c' i st Hr ∧
      ((dn_ P kt (kv k) es.toList none ∧ sv = .slice none 0 0 ∧ es' = es.push ⟨kv k, .slice none 0 0, c⟩ ∧ c' = c + 1 ∧ st = (c : Int)) ∨ (∃ j x, dn_ P kt (kv k) es.toList (some (j, sv)) ∧ es[j]? = some x ∧ x.key = kv k ∧ es' = es ∧ c' = c ∧ st = (x.born : Int))) := by
  have h0 := h
  obtain ⟨ks, es, c, Ho, rfl, hn, hl, hm, hbn⟩ := h0
  by_cases hk : k ∈ ks
  · obtain ⟨i, hi⟩ := List.getElem?_of_mem hk
    obtain ⟨x, Hk, Hr, g1, g2, g3, g4, g5⟩ := hm.get hn hi
    have hx : es[i]? = some x := by rw [← Array.getElem?_toList]; exact g1
    refine ⟨es, c, es, c, i, x.born, x.val, Hk, Hr, .cons _ g2, g4, ⟨hbn.find hx, fun d sv' Hk' hs => ?_⟩, .inr ⟨i, x, hK.sf k es.toList ks i x hm.keys hn hi g1, hx, g3, rfl, rfl, rfl⟩⟩
    obtain ⟨H', j1, j2⟩ := g5 (l ++ [(k, d)]) { x with key := kv k, val := sv' } Hk' rfl (fun q hq => fD_ hq) hs
    refine ⟨(mb, .map (es.modify i fun y => { y with val := sv' }) c) :: H', ⟨ks, _, c, H', rfl, hn, fun y hy => ?_, ?_, hbn.modify i _ fun _ => rfl⟩, .cons _ j2⟩
    · rcases List.mem_append.1 hy with hy | hy
      · exact hl y hy
      · simp at hy; rw [hy]; exact hk
    · have e1 : (es.modify i fun y => { y with val := sv' }).toList = es.toList.set i { x with key := kv k, val := sv' } := by
        apply List.ext_getElem?
        intro j
        rw [Array.getElem?_toList, Array.getElem?_modify, List.getElem?_set, Array.getElem?_toList]
        by_cases hij : i = j
        · subst hij
          have hlt : i < es.toList.length := (List.getElem?_eq_some_iff.1 g1).1
          simp only [if_true, hx, Option.map_some, if_pos hlt]
          rw [← g3]
        · simp [hij]
      rw [e1]; exact j1
  · have hlat : lat l k = [] := by
      apply List.eq_nil_iff_forall_not_mem.2
      intro d hd
      exact hk (hl _ (cr_.1 hd))
    have hb2 := hbn.push (kv k) (.slice none 0 0)
    have hget : (es.push ⟨kv k, .slice none 0 0, c⟩)[es.size]? = some ⟨kv k, .slice none 0 0, c⟩ := by simp
    refine ⟨es, c, es.push ⟨kv k, .slice none 0 0, c⟩, c + 1, es.size, (c : Int), .slice none 0 0, [], Ho, .refl _, by rw [hlat]; exact aS_.nil _ _, ⟨hb2.find hget, fun d sv' Hk' hs => ?_⟩, .inl ⟨hK.nf k es.toList ks hm.keys hk, rfl, rfl, rfl, rfl⟩⟩
    have e2 : ((es.push ⟨kv k, .slice none 0 0, c⟩).modify es.size fun y => { y with val := sv' }) = es.push ⟨kv k, sv', c⟩ := by
      apply Array.ext_getElem?
      intro j
      rw [Array.getElem?_modify, Array.getElem?_push, Array.getElem?_push]
      by_cases hj : j = es.size
      · subst hj; simp
      · rw [if_neg (fun q => hj q.symm), if_neg hj, if_neg hj]
    rw [e2]
    refine ⟨(mb, .map (es.push ⟨kv k, sv', c⟩) (c + 1)) :: (Ho ++ Hk'), ⟨ks ++ [k], _, _, _, rfl, ?_, fun y hy => ?_, ?_, hbn.push _ _⟩, .cons _ List.perm_append_comm⟩
    · rw [List.nodup_append]; exact ⟨hn, by simp, fun a ha b hb e => by simp at hb; subst hb; subst e; exact hk ha⟩
    · rcases List.mem_append.1 hy with hy | hy
      · exact List.mem_append_left _ (hl y hy)
      · simp at hy; simp [hy]
    · rw [Array.toList_push]
      exact (hm.congr fun q hq => fD_ (fun (e : q = k) => hk (e ▸ hq))).push rfl hs
theorem cR_.nil (mb : Nat) (c : Nat) : cR_ kv cells e sz ([] : List (K × D)) mb [(mb, .map #[] c)] := ⟨[], #[], c, [], rfl, List.nodup_nil, by simp, rfl, Born.nil c⟩
def mlF (P : Program) (kt : TypeId) (kv : K → Value) (cells : D → List Value) (mb : Nat) (l : List (K × D)) (adr : K → Option Addr × Nat) : Fct where
  p := fun v => v.im mb ∧ ∃ es c, v.w.heap[mb]? = some (.map es c) ∧ ∀ k, bD_ v (adr k).1 ((lat l k).flatMap cells) ∧
    ((dn_ P kt (kv k) es.toList none ∧ Value.slice (adr k).1 (lat l k).length (adr k).2 = .slice none 0 0) ∨ ∃ i, dn_ P kt (kv k) es.toList (some (i, .slice (adr k).1 (lat l k).length (adr k).2)))
  mono := fun v v' h ⟨h1, es, c, h2, h3⟩ => ⟨h.imUp mb h1, es, c, by rw [h.block mb h1]; exact h2, fun k => ⟨(ap_ _ _).mono v v' h (h3 k).1, (h3 k).2⟩⟩
theorem bl_ {P : Program} {kt : TypeId} {mb : Nat} {adr : K → Option Addr × Nat} {v : Vw} (h : (mlF P kt kv cells mb l adr).p v) (k : K) : bD_ v (adr k).1 ((lat l k).flatMap cells) := by
  obtain ⟨_, _, _, _, h⟩ := h
  exact (h k).1
theorem lC_ {sv : Value} {n : Nat} {xs : List Value} {Hr : Hp} {v : Vw} (h : aS_ e sz sv n xs Hr) (hv : ∀ p ∈ Hr, v.im p.1 ∧ v.w.heap[p.1]? = some p.2) : ∃ ad cap, sv = .slice ad n cap ∧ n ≤ cap ∧ cap ≤ maxLen ∧ (n ≠ 0 → ∃ b, ad = some ⟨b, 0, none⟩) ∧ bD_ v ad xs := by
  rcases h.2 with ⟨rfl, rfl, rfl⟩ | ⟨g, cap, cur, rfl, rfl, h3, h4, h5, h6⟩
  · have : xs = [] := List.eq_nil_of_length_eq_zero (by simpa using h.1)
    exact ⟨none, 0, rfl, Nat.le_refl _, by simp [maxLen], fun h => absurd rfl h, .inl this⟩
  · obtain ⟨g1, g2⟩ := hv _ (List.mem_singleton.2 rfl)
    refine ⟨some ⟨g, 0, none⟩, cap, rfl, h3, h4, fun _ => ⟨g, rfl⟩, .inr ⟨g, 0, cur, e, (0, 0), rfl, g1, g2, fun j x hj => ?_⟩⟩
    rw [← h6, List.getElem?_take] at hj
    split at hj
    · rw [Nat.zero_add, ← Array.getElem?_toList]; exact hj
    · cases hj
theorem cR_.lent {P : Program} {kt : TypeId} (hK : KeyT P kt kv) {mb : Nat} {H : Hp} (h : cR_ kv cells e sz l mb H) : ∃ adr, ∀ v : Vw, (∀ p ∈ H, v.im p.1 ∧ v.w.heap[p.1]? = some p.2) → (mlF P kt kv cells mb l adr).p v := by
  have h0 := h
  obtain ⟨ks, es, c, Ho, rfl, hn, hl, hm, _⟩ := h0
  have key : ∀ k, ∃ q : Option Addr × Nat, ∀ v : Vw, (∀ p ∈ (mb, Obj.map es c) :: Ho, v.im p.1 ∧ v.w.heap[p.1]? = some p.2) → bD_ v q.1 ((lat l k).flatMap cells) ∧ ((dn_ P kt (kv k) es.toList none ∧ Value.slice q.1 (lat l k).length q.2 = .slice none 0 0) ∨ ∃ i, dn_ P kt (kv k) es.toList (some (i, .slice q.1 (lat l k).length q.2))) := fun k => by
    by_cases hk : k ∈ ks
    · obtain ⟨i, hi⟩ := List.getElem?_of_mem hk
      obtain ⟨x, Hk, Hr, g1, g2, g3, g4, _⟩ := hm.get hn hi
      have hf := hK.sf k es.toList ks i x hm.keys hn hi g1
      have hsl : ∃ ad cap, x.val = .slice ad (lat l k).length cap := by
        rcases g4.2 with ⟨q1, q2, _⟩ | ⟨g, cap, cur, q1, _⟩
        · exact ⟨none, 0, by rw [q1, q2]⟩
        · exact ⟨_, cap, q1⟩
      obtain ⟨ad, cap, hx⟩ := hsl
      refine ⟨(ad, cap), fun v hv => ⟨?_, .inr ⟨i, by rw [← hx]; exact hf⟩⟩⟩
      obtain ⟨ad', cap', e1, _, _, _, hr⟩ := lC_ g4 fun p hp => hv p (List.mem_cons_of_mem _ (g2.mem_iff.2 (List.mem_append_left _ hp)))
      rw [hx] at e1
      simp only [Value.slice.injEq] at e1
      rw [e1.1]; exact hr
    · have hlat : lat l k = [] := by
        apply List.eq_nil_iff_forall_not_mem.2
        intro d hd
        exact hk (hl _ (cr_.1 hd))
      exact ⟨(none, 0), fun v hv => ⟨.inl (by rw [hlat]; rfl), .inl ⟨hK.nf k es.toList ks hm.keys hk, by rw [hlat]; rfl⟩⟩⟩
  refine ⟨fun k => (key k).choose, fun v hv => ?_⟩
  obtain ⟨g1, g2⟩ := hv _ List.mem_cons_self
  exact ⟨g1, es, c, g2, fun k => (key k).choose_spec v hv⟩
end
section
variable {P : Program} {K : Type} [DecidableEq K] {kv : K → Value} {kt : TypeId}
structure SetE (kv : K → Value) (es : Array MapEntry) (q : List K) : Prop where
  keys : es.toList.map (·.key) = q.map kv
  vals : ∀ x ∈ es.toList, x.val = .bool true
  nd : q.Nodup
theorem SetE.nil : SetE kv #[] ([] : List K) := ⟨rfl, by simp, List.nodup_nil⟩
theorem SetE.size {es : Array MapEntry} {q : List K} (h : SetE kv es q) : es.size = q.length := by
  have := congrArg List.length h.keys
  simpa using this
theorem SetE.yes (hK : KeyT P kt kv) {es : Array MapEntry} {q : List K} (h : SetE kv es q) {k : K} (hk : k ∈ q) : ∃ i x, q[i]? = some k ∧ es[i]? = some x ∧ x.key = kv k ∧ x.val = .bool true ∧ dn_ P kt (kv k) es.toList (some (i, .bool true)) := by
  obtain ⟨i, hi⟩ := List.getElem?_of_mem hk
  have hlt : i < es.toList.length := by
    have := (List.getElem?_eq_some_iff.1 hi).1
    have e := congrArg List.length h.keys
    simp at e this ⊢; omega
  have hx := List.getElem?_eq_getElem hlt
  have hv := h.vals _ (List.getElem_mem hlt)
  have hkey : es.toList[i].key = kv k := by
    have := congrArg (fun l => l[i]?) h.keys
    simp only [List.getElem?_map, hx, hi, Option.map_some, Option.some.injEq] at this
    exact this
  refine ⟨i, es.toList[i], hi, by rw [← Array.getElem?_toList]; exact hx, hkey, hv, ?_⟩
  have := hK.sf k es.toList q i _ h.keys h.nd hi hx
  rwa [hv] at this
theorem SetE.no (hK : KeyT P kt kv) {es : Array MapEntry} {q : List K} (h : SetE kv es q) {k : K} (hk : k ∉ q) : dn_ P kt (kv k) es.toList none := hK.nf k es.toList q h.keys hk
theorem SetE.push {es : Array MapEntry} {q : List K} (h : SetE kv es q) {k : K} (hk : k ∉ q) (c : Nat) : SetE kv (es.push ⟨kv k, .bool true, c⟩) (q ++ [k]) := by
  refine ⟨by simp [h.keys], fun x hx => ?_, ?_⟩
  · rw [Array.toList_push, List.mem_append] at hx
    rcases hx with hx | hx
    · exact h.vals x hx
    · simp at hx; rw [hx]
  · rw [List.nodup_append]; exact ⟨h.nd, by simp, fun a ha b hb e => by simp at hb; subst hb; subst e; exact hk ha⟩
end
section ops
variable {P : Program} {N : Nat} {v0 : Vw} {H0 : Hp} {R : Exit → Act → World → Prop} {Kk : List Kt} {fr : Fr} {H : Hp} {Γ : List Fct}
variable {ops : Array Oper} {lo : List Oper} {d : Nat} {ty : TypeId} {ps : String} {af : Array Edge}
variable {K D : Type} [DecidableEq K] {kv : K → Value} {cells : D → List Value}
theorem bI_ {t kt et : TypeId} {x y : Operand} {mb : Nat} {l : List (K × D)} {adr : K → Option Addr × Nat} {k : K} (hK : KeyT P kt kv) (hu : ∀ w, (underlying t).run P w = .ok (.map kt et) w) (hz : ∀ w, (zeroValue et).run P w = .ok (.slice none 0 0) w) (hx : Fr.ev fr x = some (.map (some mb))) (hy : Fr.ev fr y = some (kv k))
    (hm : ∀ v, v.sat H → aD_ Γ v → (mlF P kt kv cells mb l adr).p v) : Yld P N fr H Γ (.lookup t x y false) ty (.slice (adr k).1 (lat l k).length (adr k).2) :=
  fun a v h1 h2 h4 _ _ _ => by
    obtain ⟨_, es, c, g1, g2⟩ := hm v h2 h4
    have hb := MapKept.run_getObj_map (P := P) g1
    rcases (g2 k).2 with ⟨q5, q6⟩ | ⟨i, q5⟩
    · rw [q6]; simp [execOp, h1.ev hx, h1.ev hy, Instr.lookup, hu, hb, hK.ok _ _ _, q5 _, hz]
    · simp [execOp, h1.ev hx, h1.ev hy, Instr.lookup, hu, hb, hK.ok _ _ _, q5 _]
theorem dq_ {t kt et : TypeId} {x y : Operand} {mb c : Nat} {es : Array MapEntry} {q : List K} {k : K} (hK : KeyT P kt kv) (hu : ∀ w, (underlying t).run P w = .ok (.map kt et) w) (hz : ∀ w, (zeroValue et).run P w = .ok (.bool false) w) (hx : Fr.ev fr x = some (.map (some mb))) (hy : Fr.ev fr y = some (kv k))
    (hq : SetE kv es q) (hm : ∀ v, v.sat H → aD_ Γ v → v.w.heap[mb]? = some (.map es c)) : Yld P N fr H Γ (.lookup t x y false) ty (.bool (decide (k ∈ q))) := by
  by_cases hk : k ∈ q
  · obtain ⟨i, _, _, _, _, _, hf⟩ := hq.yes hK hk
    rw [decide_eq_true hk]
    exact hi_ hu hx hy hm (hK.ok k) hf
  · rw [decide_eq_false hk]
    exact gc_ hu hz hx hy hm (hK.ok k) (hq.no hK hk)
theorem mn_ {t kt et : TypeId} {x : Operand} {mb c : Nat} {es : Array MapEntry} (hu : ∀ w, (underlying t).run P w = .ok (.map kt et) w) (hx : Fr.ev fr x = some (.map (some mb))) (hm : ∀ v, v.sat H → aD_ Γ v → v.w.heap[mb]? = some (.map es c)) :
    Yld P N fr H Γ (.call ⟨.builtin .len, #[x], #[t]⟩) ty (.int .i64 (es.size : Int)) :=
  fun a v h1 h2 h4 _ _ _ => by
    have hb := MapKept.run_getObj_map (P := P) (hm v h2 h4)
    simp [execOp, resolve, invoke, builtin, Builtin.len_, h1.ev hx, hu, hb, goInt]
theorem hy_ {o : Op} {t kt et : TypeId} {x y z : Operand} {b c i : Nat} (n : Nat) {es : Array MapEntry} {e : MapEntry} {k : K} {u u' : Value} (hK : KeyT P kt kv) (ho : o = .insert t x y z ∨ o = .mapUpdate t x y z) (hu : ∀ w, (underlying t).run P w = .ok (.map kt et) w)
    (hx : Fr.ev fr x = some (.map (some b))) (hy : Fr.ev fr y = some (kv k)) (hz : Fr.ev fr z = some u) (hi : H[n]? = some (b, .map es c)) (hf : dn_ P kt (kv k) es.toList (some (i, u'))) (he : es[i]? = some e) (hek : e.key = kv k)
    (hkk : Ops P R N v0 H0 ops lo Kk fr (H.set n (b, .map (es.modify i fun y => { y with key := kv k, val := u }) c)) Γ) : Ops P R N v0 H0 ops (⟨none, o, ty, ps, af, none⟩ :: lo) Kk fr H Γ :=
  cP_ rfl fun a v h1 h2 h3 h4 => by
    have hb := (h2.own _ (List.mem_of_getElem? hi)).1
    have hg := MapKept.run_getObj_map (P := P) hb
    have hs := MapKept.run_setObj_map (P := P) (.map (es.modify i fun y => { y with key := kv k, val := u }) c) hb
    have he : (execOp a.eval ⟨none, o, ty, ps, af, none⟩).run P v.w = .ok .skip { v.w with heap := v.w.heap.setIfInBounds b (.map (es.modify i fun y => { y with key := kv k, val := u }) c) } := by
      rcases ho with rfl | rfl <;> simp [execOp, h1.ev hx, h1.ev hy, h1.ev hz, Instr.mapUpdate, hu, hg, hK.ok _ _ _, hf _, hs, Instr.keyThatStays, he, hek, hK.same]
    unfold Oper.wp
    rw [he]
    have hh := MapKept.heap_set (o' := .map (es.modify i fun y => { y with key := kv k, val := u }) c) hb
    obtain ⟨g1, g2⟩ := gi_ (w' := { v.w with heap := v.w.heap.setIfInBounds b (.map (es.modify i fun y => { y with key := kv k, val := u }) c) }) h2 hi rfl rfl rfl (Nat.le_refl _) (by simp) hh.1 (fun k hk => hh.2 k hk)
    exact hkk a _ h1 g1 (h3.trans g2) (bP_ (g2.le h2) h4)
theorem jU_ {es : Array MapEntry} {i : Nat} {e : MapEntry} {key val : Value} (he : es[i]? = some e) (hk : e.key = key) (hv : e.val = val) : (es.modify i fun y => { y with key := key, val := val }) = es := by
  apply Array.ext_getElem?
  intro j
  rw [Array.getElem?_modify]
  by_cases hij : i = j
  · subst hij; rw [if_pos rfl, he]; simp only [Option.map_some]; rw [← hk, ← hv]
  · rw [if_neg hij]
theorem ey_ {o : Op} {t kt et : TypeId} {x y z : Operand} {b c : Nat} (n : Nat) {es : Array MapEntry} {q : List K} {k : K} (hK : KeyT P kt kv) (ho : o = .insert t x y z ∨ o = .mapUpdate t x y z) (hu : ∀ w, (underlying t).run P w = .ok (.map kt et) w)
    (hx : Fr.ev fr x = some (.map (some b))) (hy : Fr.ev fr y = some (kv k)) (hz : Fr.ev fr z = some (.bool true)) (hi : H[n]? = some (b, .map es c)) (hq : SetE kv es q)
    (hkk : ∀ es' c', SetE kv es' (if k ∈ q then q else q ++ [k]) → Ops P R N v0 H0 ops lo Kk fr (H.set n (b, .map es' c')) Γ) : Ops P R N v0 H0 ops (⟨none, o, ty, ps, af, none⟩ :: lo) Kk fr H Γ := by
  by_cases hk : k ∈ q
  · obtain ⟨i, e, g1, g2, g3, g4, g5⟩ := hq.yes hK hk
    refine hy_ n hK ho hu hx hy hz hi g5 g2 g3 ?_
    rw [jU_ g2 g3 g4]
    exact hkk es c (by rw [if_pos hk]; exact hq)
  · exact hB_ n ho hu hx hy hz hi (hK.ok k) (hq.no hK hk) (hkk _ _ (by rw [if_neg hk]; exact hq.push hk c))
theorem cJ_ {t kt et : TypeId} {x y : Operand} {mb : Nat} {e : TypeId} {sz : Nat} {l : List (K × D)} {k : K} {Hm F : Hp} (hK : KeyT P kt kv) (hm : cR_ kv cells e sz l mb Hm) (hu : ∀ w, (underlying t).run P w = .ok (.map kt et) w) (hz : ∀ w, (zeroValue et).run P w = .ok (.slice none 0 0) w)
    (hx : Fr.ev fr x = some (.map (some mb))) (hy : Fr.ev fr y = some (kv k)) (hH : H.Perm (Hm ++ F)) (hN : Nat.blt d N = true)
    (hk : ∀ es c i st sv Hk Hr, MOpn kv cells e sz l mb k es c i st Hr → aS_ e sz sv (lat l k).length ((lat l k).flatMap cells) Hk → Ops P R N v0 H0 ops lo Kk ((d, .tuple #[sv, .int .i64 st]) :: fr) ((mb, .map es c) :: (Hk ++ (Hr ++ F))) Γ) :
    Ops P R N v0 H0 ops (⟨some d, .mapEntry t x y, ty, ps, af, none⟩ :: lo) Kk fr H Γ := by
  obtain ⟨es, c, es', c', i, st, sv, Hk, Hr, p1, p2, p3, p4⟩ := hm.entry hK k
  refine cP_ rfl fun a v h1 h2 h3 h4 => ?_
  have hp : H.Perm ((mb, .map es c) :: (Hk ++ (Hr ++ F))) := hH.trans (by
    have := p1.append_right F
    simpa [List.append_assoc] using this)
  have h2' := h2.perm hp
  have hb := (h2'.own _ List.mem_cons_self).1
  have hg := MapKept.run_getObj_map (P := P) hb
  have he : (execOp a.eval ⟨some d, .mapEntry t x y, ty, ps, af, none⟩).run P v.w = .ok (.value (.tuple #[sv, .int .i64 st])) { v.w with heap := v.w.heap.setIfInBounds mb (.map es' c') } := by
    rcases p4 with ⟨q1, rfl, rfl, rfl, rfl⟩ | ⟨j, z, q1, q2, q3, rfl, rfl, rfl⟩
    · have hs := MapKept.run_setObj_map (P := P) (.map (es.push ⟨kv k, .slice none 0 0, c⟩) (c + 1)) hb
      simp [execOp, h1.ev hx, h1.ev hy, Instr.mapEntry, hu, hg, hK.ok _ _ _, q1 _, hz, hs, goInt]
    · have hs := MapKept.run_setObj_map (P := P) (.map es' c') hb
      simp [execOp, h1.ev hx, h1.ev hy, Instr.mapEntry, hu, hg, hK.ok _ _ _, q1 _, Instr.keyThatStays, q2, q3, hK.same, kz_ q2 q3, hs, goInt]
  unfold Oper.wp
  rw [he]
  have hh := MapKept.heap_set (o' := .map es' c') hb
  obtain ⟨g1, g2⟩ := gi_ (i := 0) (o' := .map es' c') (w' := { v.w with heap := v.w.heap.setIfInBounds mb (.map es' c') }) h2' rfl rfl rfl rfl (Nat.le_refl _) (by simp) hh.1 (fun k hk => hh.2 k hk)
  simp only [List.set_cons_zero] at g1 g2
  exact hk es' c' i st sv Hk Hr p3 p2 _ _ (h1.put hN) g1 (h3.trans (g2.permL hp.symm)) (bP_ (g2.le h2') h4)
theorem bz_ {t : TypeId} {x y z : Operand} {mb c i : Nat} {e : TypeId} {sz : Nat} {l : List (K × D)} {k : K} {dd : D} {es : Array MapEntry} {st : Int} {sv : Value} {Hk Hr F : Hp} (ho : MOpn kv cells e sz l mb k es c i st Hr) (hr : aS_ e sz sv (lat (l ++ [(k, dd)]) k).length ((lat (l ++ [(k, dd)]) k).flatMap cells) Hk)
    (hx : Fr.ev fr x = some (.map (some mb))) (hy : Fr.ev fr y = some (.int .i64 st)) (hz : Fr.ev fr z = some sv) (hH : H.Perm ((mb, .map es c) :: (Hk ++ (Hr ++ F))))
    (hk : ∀ H', cR_ kv cells e sz (l ++ [(k, dd)]) mb H' → Ops P R N v0 H0 ops lo Kk fr (H' ++ F) Γ) : Ops P R N v0 H0 ops (⟨none, .entryStore t x y z, ty, ps, af, none⟩ :: lo) Kk fr H Γ := by
  obtain ⟨H', q1, q2⟩ := ho.close dd sv Hk hr
  refine cP_ rfl fun a v h1 h2 h3 h4 => ?_
  have h2' := h2.perm hH
  have hb := (h2'.own _ List.mem_cons_self).1
  have hg := MapKept.run_getObj_map (P := P) hb
  have hs := MapKept.run_setObj_map (P := P) (.map (es.modify i fun y => { y with val := sv }) c) hb
  have he : (execOp a.eval ⟨none, .entryStore t x y z, ty, ps, af, none⟩).run P v.w = .ok .skip { v.w with heap := v.w.heap.setIfInBounds mb (.map (es.modify i fun y => { y with val := sv }) c) } := by
    have hf := ho.find
    simp [execOp, h1.ev hx, h1.ev hy, h1.ev hz, Instr.entryStore, hg, hs, asInt, asIntOf, hf]
  unfold Oper.wp
  rw [he]
  have hh := MapKept.heap_set (o' := .map (es.modify i fun y => { y with val := sv }) c) hb
  obtain ⟨g1, g2⟩ := gi_ (i := 0) (o' := .map (es.modify i fun y => { y with val := sv }) c) (w' := { v.w with heap := v.w.heap.setIfInBounds mb (.map (es.modify i fun y => { y with val := sv }) c) }) h2' rfl rfl rfl rfl (Nat.le_refl _) (by simp) hh.1 (fun k hk => hh.2 k hk)
  simp only [List.set_cons_zero] at g1 g2
  have pp : ((mb, Obj.map (es.modify i fun y => { y with val := sv }) c) :: (Hk ++ (Hr ++ F))).Perm (H' ++ F) := by
    have := (q2.append_right F).symm
    simpa [List.append_assoc] using this
  exact hk H' q1 _ _ h1 (g1.perm pp) (h3.trans ((g2.permL hH.symm).subR fun b hb => ((pp.map Prod.fst).mem_iff).2 hb)) (bP_ (g2.le h2') h4)
def MOp (P : Program) (kt : TypeId) (kv : K → Value) (cells : D → List Value) (e : TypeId) (sz : Nat) (l : List (K × D)) (mb : Nat) (k : K) (es : Array MapEntry) (c : Nat) (sv : Value) (Hr : Hp) : Prop :=
  (dn_ P kt (kv k) es.toList none ∧ sv = .slice none 0 0 ∧ ∀ d sv' Hk', aS_ e sz sv' (lat (l ++ [(k, d)]) k).length ((lat (l ++ [(k, d)]) k).flatMap cells) Hk' → ∃ H', cR_ kv cells e sz (l ++ [(k, d)]) mb H' ∧ H'.Perm ((mb, .map (es.push ⟨kv k, sv', c⟩) (c + 1)) :: (Hk' ++ Hr))) ∨
  (∃ i x, dn_ P kt (kv k) es.toList (some (i, sv)) ∧ es[i]? = some x ∧ x.key = kv k ∧ x.val = sv ∧ ∀ d sv' Hk', aS_ e sz sv' (lat (l ++ [(k, d)]) k).length ((lat (l ++ [(k, d)]) k).flatMap cells) Hk' → ∃ H', cR_ kv cells e sz (l ++ [(k, d)]) mb H' ∧ H'.Perm ((mb, .map (es.modify i fun y => { y with key := kv k, val := sv' }) c) :: (Hk' ++ Hr)))
theorem le_ {k0 : Act → World → Prop} {kt : TypeId} {mb : Nat} {e : TypeId} {sz : Nat} {l : List (K × D)} {Hm F : Hp} (hK : KeyT P kt kv) (k : K) (hm : cR_ kv cells e sz l mb Hm) (hH : H.Perm (Hm ++ F))
    (h : ∀ es c sv Hk Hr, aS_ e sz sv (lat l k).length ((lat l k).flatMap cells) Hk → MOp P kt kv cells e sz l mb k es c sv Hr → Ok N v0 H0 k0 fr ((mb, .map es c) :: (Hk ++ (Hr ++ F))) Γ) : Ok N v0 H0 k0 fr H Γ := by
  obtain ⟨es, c, sv, Hk, Hr, p1, p2, p3⟩ := hm.open hK k
  refine ay_ (hH.trans (by
    have := p1.append_right F
    simpa [List.append_assoc] using this)) (h es c sv Hk Hr p2 p3)
theorem ft_ {t kt et : TypeId} {x y : Operand} {mb c : Nat} {e : TypeId} {sz : Nat} {l : List (K × D)} {k : K} {es : Array MapEntry} {sv : Value} {Hr : Hp} (hK : KeyT P kt kv) (ho : MOp P kt kv cells e sz l mb k es c sv Hr) (hu : ∀ w, (underlying t).run P w = .ok (.map kt et) w) (hz : ∀ w, (zeroValue et).run P w = .ok (.slice none 0 0) w)
    (hx : Fr.ev fr x = some (.map (some mb))) (hy : Fr.ev fr y = some (kv k)) (i : Nat) (hi : H[i]? = some (mb, .map es c)) : Yld P N fr H Γ (.lookup t x y false) ty sv := by
  have hm : ∀ v, v.sat H → aD_ Γ v → v.w.heap[mb]? = some (.map es c) := fun v h _ => (h.own _ (List.mem_of_getElem? hi)).1
  rcases ho with ⟨h1, rfl, _⟩ | ⟨i, z, h1, _⟩
  · exact gc_ hu hz hx hy hm (hK.ok k) h1
  · exact hi_ hu hx hy hm (hK.ok k) h1
theorem eT_ {o : Op} {t kt et : TypeId} {x y z : Operand} {mb c : Nat} {e : TypeId} {sz : Nat} {l : List (K × D)} {k : K} {dd : D} {es : Array MapEntry} {sv sv' : Value} {Hk Hr F : Hp} (hK : KeyT P kt kv) (ho : MOp P kt kv cells e sz l mb k es c sv Hr) (hr : aS_ e sz sv' (lat (l ++ [(k, dd)]) k).length ((lat (l ++ [(k, dd)]) k).flatMap cells) Hk)
    (hop : o = .insert t x y z ∨ o = .mapUpdate t x y z) (hu : ∀ w, (underlying t).run P w = .ok (.map kt et) w) (hx : Fr.ev fr x = some (.map (some mb))) (hy : Fr.ev fr y = some (kv k)) (hz : Fr.ev fr z = some sv') (hH : H.Perm ((mb, .map es c) :: (Hk ++ (Hr ++ F))))
    (hk : ∀ H', cR_ kv cells e sz (l ++ [(k, dd)]) mb H' → Ops P R N v0 H0 ops lo Kk fr (H' ++ F) Γ) : Ops P R N v0 H0 ops (⟨none, o, ty, ps, af, none⟩ :: lo) Kk fr H Γ := by
  refine ay_ hH ?_
  rcases ho with ⟨h1, _, h2⟩ | ⟨i, q, h1, h3, h4, _, h2⟩
  · obtain ⟨H', q1, q2⟩ := h2 dd sv' Hk hr
    refine hB_ 0 hop hu hx hy hz rfl (hK.ok k) h1 ?_
    simp only [List.set_cons_zero]
    exact ay_ (by have := (q2.append_right F).symm; simpa [List.append_assoc] using this) (hk H' q1)
  · obtain ⟨H', q1, q2⟩ := h2 dd sv' Hk hr
    refine hy_ 0 hK hop hu hx hy hz rfl h1 h3 h4 ?_
    simp only [List.set_cons_zero]
    exact ay_ (by have := (q2.append_right F).symm; simpa [List.append_assoc] using this) (hk H' q1)
theorem cm_ {b : Nat × Obj} {O Q F : Hp} (h : H.Perm ((b :: (O ++ Q)) ++ F)) : H.Perm (b :: (O ++ (Q ++ F))) := by simpa [List.append_assoc] using h
theorem cG_ {b : Nat × Obj} {F : Hp} (h : H.Perm ([b] ++ F)) : H.Perm (b :: F) := h
theorem aV_ {b : Nat × Obj} {F F' : Hp} (h : H.Perm ([b] ++ F)) (h2 : F.Perm F') : H.Perm (b :: F') := List.Perm.trans h (h2.cons b)
theorem ir_ {fn : Func} {Rr : Ending → World → Prop} {c : Code} (h : Run P (bodyPost P fn Rr) N v0 H0 c [] fr H Γ) : Run P (bodyPost P fn Rr) N v0 H0 (.scope c) [] fr H Γ :=
  fun a v h1 h2 h3 h4 => wp_scope_straight (wp_mono (h a v h1 h2 h3 h4) fun e a w hq => by cases e <;> exact hq)
theorem is_ {c : Nat} (h : Fin P R N v0 H0 Kk fr H Γ) : Run P R N v0 H0 (.label c) Kk fr H Γ :=
  fun a v h1 h2 h3 h4 => wp_label (h a v h1 h2 h3 h4)
end ops
end Go.Sx
namespace Go.Sx
open Go
section
variable {P : Program} {N : Nat} {v0 : Vw} {H0 : Hp} {R : Exit → Act → World → Prop} {K : List Kt} {fr : Fr} {H F : Hp} {Γ : List Fct} {ops : Array Oper} {l : List Oper} {d : Nat} {ty : TypeId} {ps : String} {af : Array Edge} {e : TypeId} {sz n : Nat} {sv : Value} {xs : List Value} {Hr : Hp}
theorem ky_ {t kt et : TypeId} {x : Operand} {k : IntKind} {m : Int} (hu : ∀ w, (underlying t).run P w = .ok (.map kt et) w) (hx : Fr.ev fr x = some (.int k m)) (hN : Nat.blt d N = true) (hk : ∀ b, Ops P R N v0 H0 ops l K ((d, .map (some b)) :: fr) ((b, .map #[] 0) :: H) Γ) :
    Ops P R N v0 H0 ops (⟨some d, .makeMap t (some x), ty, ps, af, none⟩ :: l) K fr H Γ :=
  eS_ (x := fun b => .map (some b)) hN (fun a v h1 _ _ => by simp [execOp, Instr.makeMap, newObj, hu, h1.ev hx, asInt, asIntOf]; rfl) hk
theorem jN_ {x y : Operand} {t tn : TypeId} {by' : Nat} {k kn : IntKind} (he : Elt P t e sz by') (htn : P.underlying tn = some (.int kn)) (hx : Fr.ev fr x = some (.slice none 0 0)) (hy : Fr.ev fr y = some (.int k (n : Int))) (h0 : 0 < n) (hb : n * by' ≤ 140737488355328) (h63 : n ≤ maxLen) (hN : Nat.blt d N = true)
    (hk : ∀ (y : Nat × Array Value) (b : Nat), (n ≤ y.1 ∧ y.1 ≤ maxLen ∧ y.2.size = y.1 * sz) → Ops P R N v0 H0 ops l K ((d, .slice (some ⟨b, 0, none⟩) n y.1) :: fr) ((b, .cells y.2 e (0, 0)) :: H) Γ) :
    Ops P R N v0 H0 ops (⟨some d, .call ⟨.builtin .append, #[x, y], #[t, tn]⟩, ty, ps, af, none⟩ :: l) K fr H Γ :=
  hA_ (β := Nat × Array Value) (x := fun y b => .slice (some ⟨b, 0, none⟩) n y.1) (o := fun y => .cells y.2 e (0, 0)) (fun y => n ≤ y.1 ∧ y.1 ≤ maxLen ∧ y.2.size = y.1 * sz) hN
    (fun a v h1 h2 h4 => by
      obtain ⟨i, z, hi, hz, es, eb, ez⟩ := he.info
      subst es eb
      have hr := Lib.run_append_nil_zeros (P := P) v.w t tn ty e i z k kn he.und htn hi hz n h0 he.pos (by simp only [maxLen] at h63; omega) (by omega)
      have h1' := grownCap_ge v.w n 0 e
      have h2' := grownCap_le_maxLen v.w n 0 e h63
      refine ⟨(grownCap v.w n 0 e, Builtin.zeroCells z.cells n ++ Builtin.zeroCells z.cells (grownCap v.w n 0 e - n)), v.w.drew.alloc (.cells (Builtin.zeroCells z.cells n ++ Builtin.zeroCells z.cells (grownCap v.w n 0 e - n)) e), ⟨h1', h2', ?_⟩, ?_, rfl, rfl, rfl, rfl, by simp⟩
      · simp only [Array.size_append, size_zeroCells, ez, ← Nat.add_mul]
        congr 1
        omega
      · simp only [execOp, resolve, invoke, builtin, Sem.run_bind, Sem.run_pure, Result.andThen_ok, List.map_toArray, List.map_cons, List.map_nil, h1.ev hx, h1.ev hy, hr])
    hk
theorem jp_ {x : Operand} {t : TypeId} {ad : Option Addr} {len cap : Nat} (hu : ∀ w, (underlying t).run P w = .ok (.slice e) w) (hx : Fr.ev fr x = some (.slice ad len cap)) :
    Yld P N fr H Γ (.call ⟨.builtin .cap, #[x], #[t]⟩) ty (.int .i64 (cap : Int)) :=
  fun a v h1 _ _ _ _ _ => by simp [execOp, resolve, invoke, builtin, Builtin.cap_, hu, h1.ev hx, goInt]
theorem lB_ {b cap : Nat} {cur : Array Value} (h1 : cap ≤ maxLen) (h2 : cur.size = cap * sz) : aS_ e sz (.slice (some ⟨b, 0, none⟩) 0 cap) 0 [] [(b, .cells cur e (0, 0))] :=
  ⟨by simp, .inr ⟨b, cap, cur, rfl, rfl, Nat.zero_le _, h1, h2, by simp⟩⟩
end
end Go.Sx
namespace Go.Sx
open Go
theorem nb_ {P : Program} {kt : TypeId} {kd : IntKind} (hu : P.underlying kt = some (.int kd)) : KeyT P kt (fun n : Int => .int kd n) where
  ok := fun k => lR_ hu
  nf := fun k es ks h hk => fH_ hu (by
    have : ∀ (ks : List Int) (es : List MapEntry) (i : Nat), es.map (·.key) = ks.map (fun n : Int => Value.int kd n) → k ∉ ks → Instr.findNow (.int kd) (.int kd k) es i = some none := by
      intro ks
      induction ks with
      | nil => intro es i h _; have : es = [] := by simpa using h
               subst this; rfl
      | cons q ks ih =>
        intro es i h hk
        cases es with
        | nil => simp at h
        | cons e es =>
          simp only [List.map_cons, List.cons.injEq] at h
          simp only [List.mem_cons, not_or] at hk
          have hs : Instr.sameNow (.int kd) (.int kd k) e.key = some false := by
            rw [h.1]; simp [Instr.sameNow, hk.1]
          simp only [Instr.findNow, hs]
          exact ih es (i + 1) h.2 hk.2
    exact this ks es 0 h hk)
  sf := fun k es ks i e h hn hi he => fH_ hu (by
    have : ∀ (ks : List Int) (es : List MapEntry) (j i : Nat), es.map (·.key) = ks.map (fun n : Int => Value.int kd n) → ks.Nodup → ks[i]? = some k → es[i]? = some e → Instr.findNow (.int kd) (.int kd k) es j = some (some (j + i, e.val)) := by
      intro ks
      induction ks with
      | nil => intro es j i _ _ h; simp at h
      | cons q ks ih =>
        intro es j i h hn hi he
        cases es with
        | nil => simp at h
        | cons x es =>
          simp only [List.map_cons, List.cons.injEq] at h
          rw [List.nodup_cons] at hn
          cases i with
          | zero =>
            simp only [List.getElem?_cons_zero, Option.some.injEq] at hi he
            subst hi; subst he
            have hs : Instr.sameNow (.int kd) (.int kd q) x.key = some true := by
              rw [h.1]; simp [Instr.sameNow]
            simp only [Instr.findNow, hs, Nat.add_zero]
          | succ i =>
            simp only [List.getElem?_cons_succ] at hi he
            have hne : k ≠ q := fun e => hn.1 (e ▸ List.mem_of_getElem? hi)
            have hs : Instr.sameNow (.int kd) (.int kd k) x.key = some false := by
              rw [h.1]; simp [Instr.sameNow, hne]
            simp only [Instr.findNow, hs]
            rw [ih es (j + 1) i h.2 hn.2 hi he, show j + 1 + i = j + (i + 1) by omega]
    have := this ks es 0 i h hn hi he
    rwa [Nat.zero_add] at this)
  same := fun k => dz_ 10000 k
end Go.Sx
namespace Go.Sx
open Go
section
variable {P : Program} {N : Nat} {v0 : Vw} {H0 : Hp} {R : Exit → Act → World → Prop} {Kk : List Kt} {fr : Fr} {H : Hp} {Γ : List Fct}
variable {ops : Array Oper} {lo : List Oper} {d : Nat} {ty : TypeId} {ps : String} {af : Array Edge}
variable {K : Type} [DecidableEq K] {kv : K → Value}
structure ItS (kv : K → Value) (es : Array MapEntry) (seen : Array Nat) (done : List K) : Prop where
  nd : done.Nodup
  mem : ∀ e ∈ es.toList, seen.contains e.born = true ↔ ∃ k ∈ done, e.key = kv k
  sub : ∀ k ∈ done, ∃ e ∈ es.toList, e.key = kv k
theorem ItS.nil {es : Array MapEntry} : ItS kv es #[] [] := ⟨List.nodup_nil, fun e _ => by simp, fun k hk => by simp at hk⟩
theorem SetE.entry {es : Array MapEntry} {q : List K} (hE : SetE kv es q) (hi : ∀ x y, kv x = kv y → x = y) {x e : MapEntry} (hx : x ∈ es.toList) (he : e ∈ es.toList) (h : x.key = e.key) : x = e := by
  obtain ⟨i, hi1, hi2⟩ := List.getElem_of_mem hx
  obtain ⟨j, hj1, hj2⟩ := List.getElem_of_mem he
  have hl := congrArg List.length hE.keys
  simp only [List.length_map] at hl
  have key : ∀ (k : Nat) (hk : k < es.toList.length), es.toList[k].key = kv (q[k]'(by omega)) := fun k hk => by
    have := congrArg (fun l => l[k]?) hE.keys
    simp only [List.getElem?_map] at this
    rw [List.getElem?_eq_getElem hk, List.getElem?_eq_getElem (by omega)] at this
    simpa using this
  have e1 := key i hi1
  have e2 := key j hj1
  rw [hi2] at e1
  rw [hj2] at e2
  have e3 := hi _ _ (e1.symm.trans (h.trans e2))
  have hij : i = j := by
    rcases Nat.lt_trichotomy i j with h1 | h1 | h1
    · exact absurd e3 (List.pairwise_iff_getElem.1 hE.nd i j (by omega) (by omega) h1)
    · exact h1
    · exact absurd e3.symm (List.pairwise_iff_getElem.1 hE.nd j i (by omega) (by omega) h1)
  subst hij
  rw [← hi2, ← hj2]
theorem SetE.ofKey {es : Array MapEntry} {q : List K} (hE : SetE kv es q) {e : MapEntry} (he : e ∈ es.toList) : ∃ k ∈ q, e.key = kv k := by
  have : e.key ∈ es.toList.map (·.key) := List.mem_map_of_mem he
  rw [hE.keys] at this
  obtain ⟨k, hk, h⟩ := List.mem_map.1 this
  exact ⟨k, hk, h.symm⟩
theorem ItS.step {es : Array MapEntry} {q : List K} {c : Nat} {seen : Array Nat} {done : List K} {e : MapEntry} (hi : ∀ x y, kv x = kv y → x = y) (hE : SetE kv es q) (hB : Born es c) (h : ItS kv es seen done) (he : e ∈ (leftOf es seen).toList) :
    ∃ k, k ∈ q ∧ k ∉ done ∧ e.key = kv k ∧ e ∈ es.toList ∧ ItS kv es (seen.push e.born) (done ++ [k]) := by
  unfold leftOf at he
  rw [Array.toList_filter, List.mem_filter] at he
  obtain ⟨h1, h2⟩ := he
  obtain ⟨k, hk, hkv⟩ := hE.ofKey h1
  have hnd : k ∉ done := fun hm => by
    have := (h.mem e h1).2 ⟨k, hm, hkv⟩
    rw [this] at h2
    simp at h2
  refine ⟨k, hk, hnd, hkv, h1, ⟨?_, fun x hx => ?_, fun y hy => ?_⟩⟩
  · rw [List.nodup_append]; exact ⟨h.nd, by simp, fun a ha b hb e => by simp at hb; subst hb; subst e; exact hnd ha⟩
  · rw [Array.contains_push, Bool.or_eq_true, h.mem x hx, beq_iff_eq]
    constructor
    · rintro (⟨y, hy, hyv⟩ | h3)
      · exact ⟨y, by simp [hy], hyv⟩
      · have : x = e := by
          have hn := hB.nd
          obtain ⟨i, hi1, hi2⟩ := List.getElem_of_mem hx
          obtain ⟨j, hj1, hj2⟩ := List.getElem_of_mem h1
          have hij : i = j := by
            rcases Nat.lt_trichotomy i j with g | g | g
            · exact ((List.pairwise_iff_getElem.1 hn i j (by simpa using hi1) (by simpa using hj1) g) (by simp only [List.getElem_map, hi2, hj2, h3])).elim
            · exact g
            · exact ((List.pairwise_iff_getElem.1 hn j i (by simpa using hj1) (by simpa using hi1) g) (by simp only [List.getElem_map, hi2, hj2, h3])).elim
          subst hij
          rw [← hi2, ← hj2]
        exact ⟨k, by simp, this ▸ hkv⟩
    · rintro ⟨y, hy, hyv⟩
      rcases List.mem_append.1 hy with hy | hy
      · exact .inl ⟨y, hy, hyv⟩
      · rw [List.mem_singleton] at hy
        subst hy
        exact .inr (congrArg MapEntry.born (hE.entry hi hx h1 (hyv.trans hkv.symm)))
  · rcases List.mem_append.1 hy with hy | hy
    · exact h.sub y hy
    · rw [List.mem_singleton] at hy
      subst hy
      exact ⟨e, h1, hkv⟩
theorem ItS.end {es : Array MapEntry} {q : List K} {seen : Array Nat} {done : List K} (hi : ∀ x y, kv x = kv y → x = y) (hE : SetE kv es q) (h : ItS kv es seen done) (h0 : (leftOf es seen).size = 0) : done.Perm q := by
  refine (List.perm_ext_iff_of_nodup h.nd hE.nd).2 fun k => ⟨fun hk => ?_, fun hk => ?_⟩
  · obtain ⟨e, he, hkv⟩ := h.sub k hk
    obtain ⟨k', hk', hkv'⟩ := hE.ofKey he
    exact hi _ _ (hkv.symm.trans hkv') ▸ hk'
  · have : kv k ∈ es.toList.map (·.key) := by rw [hE.keys]; exact List.mem_map_of_mem hk
    obtain ⟨e, he, hkv⟩ := List.mem_map.1 this
    have hs : seen.contains e.born = true := by
      cases hc : seen.contains e.born
      · exfalso
        have : e ∈ (leftOf es seen).toList := by unfold leftOf; rw [Array.toList_filter, List.mem_filter]; exact ⟨he, by simp only [hc]; rfl⟩
        have h1 := List.length_pos_of_mem this
        simp only [Array.length_toList] at h1
        omega
      · rfl
    obtain ⟨k', hk', hkv'⟩ := (h.mem e he).1 hs
    exact hi _ _ (hkv.symm.trans hkv') ▸ hk'
end
section
variable {P : Program} {N : Nat} {v0 : Vw} {H0 : Hp} {R : Exit → Act → World → Prop} {K : List Kt} {fr : Fr} {H F : Hp} {Γ : List Fct}
end
section
variable {Fc : Fence} {n : Nat} {P : Program} {N : Nat} {D : List Deferred} {v0 : Vw} {H0 : Hp} {R : Exit → Act → World → Prop} {K : List Kt} {fr : Fr} {H : Hp} {Γ : List Fct}
variable {ops : Array Oper} {l : List Oper} {d : Nat} {ty : TypeId} {ps : String} {af : Array Edge}
end
end Go.Sx
namespace Go.Vs
open Go Go.Sx
def Ky.cells (k : Ky) : List Value := [.int .i64 k.kind, str k.role, str k.atom]
theorem Ky.cells_len (k : Ky) : k.cells.length = 3 := rfl
def Ky.val (k : Ky) : Value := .agg k.cells.toArray
def jy_ (s : fZ_) : List Value := [str s.1, str s.2]
def eY_ (s : fZ_) : Value := .agg (jy_ s).toArray
def Ky.eqb (p q : Ky) : Bool := (p.kind == q.kind) && ((p.role == q.role) && ((p.atom == q.atom) && true))
theorem Ky.eqb_eq (p q : Ky) : p.eqb q = decide (p = q) := by
  rw [Bool.eq_iff_iff]; cases p; cases q; simp [Ky.eqb]
def oy_ (p q : fZ_) : Bool := (p.1 == q.1) && ((p.2 == q.2) && true)
theorem mx_ (p q : fZ_) : oy_ p q = decide (p = q) := by
  rw [Bool.eq_iff_iff]; cases p; cases q; simp [oy_]
theorem Fc.cells_one (p : Fc) : p.cells.all Value.oneCell' = true := rfl
end Go.Vs
namespace Go.Sx
open Go Go.Vs
structure Emt (P : Program) (tF : TypeId) where
  stp : Fc → List Fc → List Fc
  kof : List Fc → List Fc
  St : List Fc → List Fc → Hp → Prop
  fn : FuncId
  caps : List Value
  ef : Fct
  kb : Nat
  fb : Nat
  grows : Grows stp kof
  emit : ∀ f nw fm H, St nw fm H → Tri P fn (f.val :: caps).toArray H [ef] (fun _ : {H' : Hp // St (stp f nw) fm H'} => .tuple #[]) (fun y => y.1) (fun _ => [])
  known : ∀ {nw fm H}, St nw fm H → ∃ es c, (kb, Obj.map es c) ∈ H ∧ SetE Fc.val es (kof nw)
  firm : ∀ {nw fm H}, St nw fm H → ∃ es c q, (fb, Obj.map es c) ∈ H ∧ SetE Fc.val es q ∧ ∀ f, f ∈ q ↔ f ∈ fm
  setf : ∀ {nw fm H} (f : Fc), St nw fm H → ∃ es c q Hr, H.Perm ((fb, Obj.map es c) :: Hr) ∧ SetE Fc.val es q ∧ (∀ f, f ∈ q ↔ f ∈ fm) ∧ ∀ es' c', SetE Fc.val es' (if f ∈ q then q else q ++ [f]) → ∃ H', St nw (f :: fm) H' ∧ H'.Perm ((fb, Obj.map es' c') :: Hr)
section
variable {P : Program} {N : Nat} {v0 : Vw} {H0 : Hp} {R : Exit → Act → World → Prop} {K : List Kt} {fr : Fr} {H : Hp} {Γ : List Fct}
variable {ops : Array Oper} {l : List Oper} {d : Nat} {ty : TypeId} {ps : String} {af : Array Edge} {tF : TypeId} {E : Emt P tF} {nw fm : List Fc} {Hs F : Hp}
theorem hw_ {b : Nat} {o : Obj} {v : Vw} (hp : H.Perm (Hs ++ F)) (hm : (b, o) ∈ Hs) (h : v.sat H) : v.w.heap[b]? = some o := (h.own _ (hp.mem_iff.2 (List.mem_append_left _ hm))).1
theorem fv_ {t et : TypeId} {x y : Operand} {f : Fc} (hS : E.St nw fm Hs) (hK : KeyT P tF Fc.val) (hu : ∀ w, (underlying t).run P w = .ok (.map tF et) w) (hz : ∀ w, (zeroValue et).run P w = .ok (.bool false) w) (hx : Fr.ev fr x = some (.map (some E.kb))) (hy : Fr.ev fr y = some f.val) (hp : H.Perm (Hs ++ F)) :
    Yld P N fr H Γ (.lookup t x y false) ty (.bool (decide (f ∈ E.kof nw))) := by
  obtain ⟨es, c, g1, g2⟩ := E.known hS
  exact dq_ hK hu hz hx hy g2 fun v h _ => hw_ hp g1 h
theorem jo_ {t et : TypeId} {x y : Operand} {f : Fc} (hS : E.St nw fm Hs) (hK : KeyT P tF Fc.val) (hu : ∀ w, (underlying t).run P w = .ok (.map tF et) w) (hz : ∀ w, (zeroValue et).run P w = .ok (.bool false) w) (hx : Fr.ev fr x = some (.map (some E.fb))) (hy : Fr.ev fr y = some f.val) (hp : H.Perm (Hs ++ F)) :
    Yld P N fr H Γ (.lookup t x y false) ty (.bool (decide (f ∈ fm))) := by
  obtain ⟨es, c, q, g1, g2, g3⟩ := E.firm hS
  have := dq_ (P := P) (N := N) (H := H) (Γ := Γ) (ty := ty) hK hu hz hx hy g2 fun v h _ => hw_ hp g1 h
  have e : decide (f ∈ q) = decide (f ∈ fm) := by rw [decide_eq_decide]; exact g3 f
  rw [← e]; exact this
theorem mQ_ {o : Op} {t et : TypeId} {x y z : Operand} {f : Fc} (hS : E.St nw fm Hs) (hK : KeyT P tF Fc.val) (ho : o = .insert t x y z ∨ o = .mapUpdate t x y z) (hu : ∀ w, (underlying t).run P w = .ok (.map tF et) w)
    (hx : Fr.ev fr x = some (.map (some E.fb))) (hy : Fr.ev fr y = some f.val) (hz : Fr.ev fr z = some (.bool true)) (hp : H.Perm (Hs ++ F))
    (hk : ∀ Hs', E.St nw (f :: fm) Hs' → Ops P R N v0 H0 ops l K fr (Hs' ++ F) Γ) : Ops P R N v0 H0 ops (⟨none, o, ty, ps, af, none⟩ :: l) K fr H Γ := by
  obtain ⟨es, c, q, Hr, p1, p2, p3, p4⟩ := E.setf f hS
  refine ay_ (H' := (E.fb, .map es c) :: (Hr ++ F)) (hp.trans (by have := p1.append_right F; simpa using this)) (ey_ 0 hK ho hu hx hy hz rfl p2 fun es' c' hs' => ?_)
  obtain ⟨H', q1, q2⟩ := p4 es' c' hs'
  simp only [List.set_cons_zero]
  exact ay_ (by have := (q2.append_right F).symm; simpa using this) (hk H' q1)
end
structure EngB where
  g : Nat
  pb : Nat
  ab : Nat
  ub : Nat
  ob : Nat
  ib : Nat
  rb : Nat
  sb : Nat
  lad : Option Addr
  lcap : Nat
  lps : List Str
structure EngA where
  p : Ky → Option Addr × Nat
  a : Str → Option Addr × Nat
  u : Str → Option Addr × Nat
  o : fZ_ → Option Addr × Nat
  i : fZ_ → Option Addr × Nat
  r : fZ_ → Option Addr × Nat
  s : fZ_ → Option Addr × Nat
def EngB.cells (B : EngB) {P : Program} {tF : TypeId} (E : Emt P tF) : List Value :=
  [.map (some B.pb), .slice B.lad B.lps.length B.lcap, .map (some E.kb), .func (.func E.fn) #[] E.caps.toArray, .map (some B.ab), .map (some B.ub), .map (some B.ob), .map (some B.ib), .map (some B.rb), .map (some B.sb), .map (some E.fb)]
structure IxH where
  a : Hp
  u : Hp
  o : Hp
  i : Hp
  r : Hp
  s : Hp
def IxO (tS tF : TypeId) (B : EngB) (x : Ix) (y : IxH) : Prop :=
  cR_ str aL_ tS 1 x.above B.ab y.a ∧ cR_ str aL_ tS 1 x.under B.ub y.u ∧ cR_ eY_ aL_ tS 1 x.frm B.ob y.o ∧ cR_ eY_ aL_ tS 1 x.into B.ib y.i ∧ cR_ eY_ Fc.cells tF 6 x.ranges B.rb y.r ∧ cR_ eY_ Fc.cells tF 6 x.firms B.sb y.s
end Go.Sx
namespace Go.Proofs.YtpdbbglpbngeiaaGreatDoor
open Go Go.Sx Go.Proofs
attribute [local irreducible] Code.wp wpList wpAnyH
open Go.Vs
theorem eqKy (p q : Ky) (w : World) : (Op.equalIn 10000 171 (Ky.val p) (Ky.val q)).run Tryz.prog w = .ok (decide (p = q)) w := by
  have h := run_equalIn_struct (P := Tryz.prog) w 9999 171 (Ky.cells p).toArray (Ky.cells q).toArray (by simp only [Program.fieldsOf, Tryz.underlying171]) Tryz.stoodInHeld171
  refine h.trans ?_
  rw [← Ky.eqb_eq]
  simp only [Program.fieldsOf, Tryz.underlying171]
  exact bE_ rfl O_ rfl rfl (eqI bs_ w) (bE_ rfl u_ rfl rfl (eqS aZ_ w) (bE_ rfl u_ rfl rfl (eqS aZ_ w) (hd_ w)))
theorem eqSpot (p q : fZ_) (w : World) : (Op.equalIn 10000 145 (eY_ p) (eY_ q)).run Tryz.prog w = .ok (decide (p = q)) w := by
  have h := run_equalIn_struct (P := Tryz.prog) w 9999 145 (jy_ p).toArray (jy_ q).toArray (by simp only [Program.fieldsOf, Tryz.underlying145]) Tryz.stoodInHeld145
  refine h.trans ?_
  rw [← mx_]
  simp only [Program.fieldsOf, Tryz.underlying145]
  exact bE_ rfl u_ rfl rfl (eqS aZ_ w) (bE_ rfl u_ rfl rfl (eqS aZ_ w) (hd_ w))
theorem okKy (p : Ky) : fP_ Tryz.prog 171 (Ky.val p) := fun e w => by
  have hi : ∀ (n : Int) (w : World), (Instr.checkKey e (9998 + 1) 3 (.int .i64 n)).run Tryz.prog w = .ok () w := fun n w => MapKept.run_checkKey (d := .int .i64) bs_ (by simp [MapKept.IsKey]) e 9998
  have hs : ∀ (n : Str) (w : World), (Instr.checkKey e (9998 + 1) 9 (str n)).run Tryz.prog w = .ok () w := fun n w => MapKept.run_checkKey (d := .string) aZ_ (by simp [MapKept.IsKey, str]) e 9998
  refine ckF (n := 9999) Tryz.underlying171 fun f hf => ?_
  simp only [List.mem_cons, List.not_mem_nil, or_false] at hf
  rcases hf with rfl | rfl | rfl
  · exact ⟨rfl, O_, _, rfl, hi _⟩
  · exact ⟨rfl, u_, _, rfl, hs _⟩
  · exact ⟨rfl, u_, _, rfl, hs _⟩
theorem okSpot (p : fZ_) : fP_ Tryz.prog 145 (eY_ p) := fun e w => by
  have hi : ∀ (n : Int) (w : World), (Instr.checkKey e (9998 + 1) 3 (.int .i64 n)).run Tryz.prog w = .ok () w := fun n w => MapKept.run_checkKey (d := .int .i64) bs_ (by simp [MapKept.IsKey]) e 9998
  have hs : ∀ (n : Str) (w : World), (Instr.checkKey e (9998 + 1) 9 (str n)).run Tryz.prog w = .ok () w := fun n w => MapKept.run_checkKey (d := .string) aZ_ (by simp [MapKept.IsKey, str]) e 9998
  refine ckF (n := 9999) Tryz.underlying145 fun f hf => ?_
  simp only [List.mem_cons, List.not_mem_nil, or_false] at hf
  rcases hf with rfl | rfl
  · exact ⟨rfl, u_, _, rfl, hs _⟩
  · exact ⟨rfl, u_, _, rfl, hs _⟩
theorem okFc (p : Fc) : fP_ Tryz.prog 41 (Fc.val p) := fun e w => by
  have hi : ∀ (n : Int) (w : World), (Instr.checkKey e (9998 + 1) 3 (.int .i64 n)).run Tryz.prog w = .ok () w := fun n w => MapKept.run_checkKey (d := .int .i64) bs_ (by simp [MapKept.IsKey]) e 9998
  have hs : ∀ (n : Str) (w : World), (Instr.checkKey e (9998 + 1) 9 (str n)).run Tryz.prog w = .ok () w := fun n w => MapKept.run_checkKey (d := .string) aZ_ (by simp [MapKept.IsKey, str]) e 9998
  refine ckF (n := 9999) Tryz.underlying41 fun f hf => ?_
  simp only [List.mem_cons, List.not_mem_nil, or_false] at hf
  rcases hf with rfl | rfl | rfl | rfl | rfl | rfl
  · exact ⟨rfl, O_, _, rfl, hi _⟩
  · exact ⟨rfl, u_, _, rfl, hs _⟩
  · exact ⟨rfl, u_, _, rfl, hs _⟩
  · exact ⟨rfl, u_, _, rfl, hs _⟩
  · exact ⟨rfl, O_, _, rfl, hi _⟩
  · exact ⟨rfl, O_, _, rfl, hi _⟩
theorem fa_ : KeyT Tryz.prog 171 Ky.val := el_ (K := Ky) Tryz.underlying171 okKy (fun p q w => eqKy p q w) fun k => gj_ (l := Ky.cells k) fun v hv => by
  simp only [Ky.cells, List.mem_cons, List.not_mem_nil, or_false] at hv
  rcases hv with rfl | rfl | rfl
  · exact dz_ _ _
  · exact cF_ _ _
  · exact cF_ _ _
theorem ch_ : KeyT Tryz.prog 145 eY_ := el_ (K := fZ_) Tryz.underlying145 okSpot (fun p q w => eqSpot p q w) fun k => gj_ (l := jy_ k) fun v hv => by
  simp only [jy_, List.mem_cons, List.not_mem_nil, or_false] at hv
  rcases hv with rfl | rfl
  · exact cF_ _ _
  · exact cF_ _ _
theorem fk_ : KeyT Tryz.prog 41 Fc.val := el_ (K := Fc) Tryz.underlying41 okFc (fun p q w => eqFc p q w) fun k => gj_ (l := Fc.cells k) fun v hv => by
  simp only [Fc.cells, List.mem_cons, List.not_mem_nil, or_false] at hv
  rcases hv with rfl | rfl | rfl | rfl | rfl | rfl
  · exact dz_ _ _
  · exact cF_ _ _
  · exact cF_ _ _
  · exact cF_ _ _
  · exact dz_ _ _
  · exact dz_ _ _
theorem nc_ : KeyT Tryz.prog 47 Pc.val := el_ (K := Pc) im_ keyPc (fun p q w => eqPc p q w) fun k => gj_ (l := Pc.cells k) fun v hv => by
  simp only [Pc.cells, List.mem_cons, List.not_mem_nil, or_false] at hv
  rcases hv with rfl | rfl | rfl | rfl | rfl | rfl | rfl | rfl | rfl | rfl
  · exact dz_ _ _
  · exact cF_ _ _
  · exact cF_ _ _
  · exact cF_ _ _
  · exact cF_ _ _
  · exact cF_ _ _
  · exact cF_ _ _
  · exact dz_ _ _
  · exact dz_ _ _
  · exact dz_ _ _
theorem go_ : KeyT Tryz.prog 9 str := na_ aZ_
theorem jb_ : Elt Tryz.prog 26 41 6 72 := kg_ Tryz.underlying26 (z := .agg #[.int .i64 0, str [], str [], str [], .int .i64 0, .int .i64 0]) (by kernel_rfl) rfl (by decide)
theorem et_ : Elt Tryz.prog 22 47 10 128 := kg_ Tryz.underlying22 (z := .agg #[.int .i64 0, str [], str [], str [], str [], str [], str [], .int .i64 0, .int .i64 0, .int .i64 0]) (by kernel_rfl) rfl (by decide)
theorem cE_ : Elt Tryz.prog 25 9 1 16 := kg_ in_ (z := .string ⟨#[]⟩) (by kernel_rfl) rfl (by decide)
theorem dx_ : jh_ Tryz.prog 171 [(0, 1), (1, 1), (2, 1)] [.int .i64 0, str [], str []] := ⟨_, Tryz.zeroValue171, Tryz.runUnderlying171, fun w => by simp [T_, o_]⟩
theorem dS_ : jh_ Tryz.prog 145 [(0, 1), (1, 1)] [str [], str []] := ⟨_, bW_, Tryz.runUnderlying145, fun w => by simp [o_]⟩
theorem strt94 : jh_ Tryz.prog 94 [(0, 1), (1, 1), (2, 1), (3, 1), (4, 1), (5, 1), (6, 1), (7, 1), (8, 1), (9, 1), (10, 1)] [.map none, .slice none 0 0, .map none, .nilFunc, .map none, .map none, .map none, .map none, .map none, .map none, .map none] := ⟨_, Tryz.zeroValue94, w_, fun w => by simp [cB_, cz_, bw_, aC_, ga_, cy_, oz_]⟩
theorem ce_ (s : Str) : (aL_ s).all Value.oneCell' = true := rfl
theorem ng_ (s : Int) : (fm_ s).all Value.oneCell' = true := rfl
def gF (B : EngB) (E : Emt Tryz.prog 41) : Fct := dE_ B.g (.cells (B.cells E).toArray 94 (0, 0))
def pF (B : EngB) (pm : List (Ky × Pc)) (A : EngA) : Fct := mlF Tryz.prog 171 Ky.val Pc.cells B.pb pm A.p
def aF (B : EngB) (x : Ix) (A : EngA) : Fct := mlF Tryz.prog 9 str aL_ B.ab x.above A.a
def uF (B : EngB) (x : Ix) (A : EngA) : Fct := mlF Tryz.prog 9 str aL_ B.ub x.under A.u
def oF (B : EngB) (x : Ix) (A : EngA) : Fct := mlF Tryz.prog 145 eY_ aL_ B.ob x.frm A.o
def iF (B : EngB) (x : Ix) (A : EngA) : Fct := mlF Tryz.prog 145 eY_ aL_ B.ib x.into A.i
def rF (B : EngB) (x : Ix) (A : EngA) : Fct := mlF Tryz.prog 145 eY_ Fc.cells B.rb x.ranges A.r
def sF (B : EngB) (x : Ix) (A : EngA) : Fct := mlF Tryz.prog 145 eY_ Fc.cells B.sb x.firms A.s
end Go.Proofs.YtpdbbglpbngeiaaGreatDoor
