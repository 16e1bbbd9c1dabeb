/-
  Part of the proof of the law NormalChains over this seat: the small logic, the data, the contracts of functions (no condition).
-/
import Derived.Test.YtoafjmalfclpoaaGreatDoorQNormalChains9
import Derived.Test.YtoafjmalfclpoaaGreatDoorQNormalChains1
import Derived.Scope
import Derived.Lib.Join
import Derived.Test.YtoafjmalfclpoaaGreatDoorQNormalChains3
import Derived.Test.YtoafjmalfclpoaaGreatDoorQNormalChains7
set_option linter.unusedVariables false
set_option linter.unusedSimpArgs false
set_option linter.unusedSectionVars false
namespace Go.Sx
open Go Go.Vs
structure KeyT (P : Program) (kt : TypeId) {K : Type} [DecidableEq K] (kv : K → Value) : Prop where
  ok : ∀ k, fY_ P kt (kv k)
  nf : ∀ (k : K) (es : List MapEntry) (ks : List K), es.map (·.key) = ks.map kv → k ∉ ks → cH_ P kt (kv k) es none
  sf : ∀ (k : K) (es : List MapEntry) (ks : List K) (i : Nat) (e : MapEntry), es.map (·.key) = ks.map kv → ks.Nodup → ks[i]? = some k → es[i]? = some e → cH_ P kt (kv k) es (some (i, e.val))
  same : ∀ k, Instr.sameBits 10000 (kv k) (kv k) = true
section
variable {P : Program}
theorem gT_ (a b : List UInt8) : ((⟨a.toArray⟩ : ByteArray) == ⟨b.toArray⟩) = decide (a = b) := by
  show (a.toArray == b.toArray) = _
  rw [Bool.eq_iff_iff]
  simp
theorem kY_ {kt : TypeId} (hu : P.underlying kt = some .string) : KeyT P kt str where
  ok := fun k e w => by
    have key : ∀ m, (Instr.checkKey e (m + 1) kt (str k)).run P w = .ok () w := fun m => by simp [Instr.checkKey, run_underlying hu, str]
    exact key 9999
  nf := fun k es ks h hk => ba_ hu (by
    have : ∀ (ks : List Str) (es : List MapEntry) (i : Nat), es.map (·.key) = ks.map str → k ∉ ks → Instr.findNow .string (str k) es i = some none := by
      intro ks
      induction ks with
      | nil => intro es i h _; have : es = [] := by simpa using h
               subst this; rfl
      | cons q ks ih =>
        intro es i h hk
        cases es with
        | nil => simp at h
        | cons e es =>
          simp only [List.map_cons, List.cons.injEq] at h
          simp only [List.mem_cons, not_or] at hk
          have hs : Instr.sameNow .string (str k) e.key = some false := by
            rw [h.1]
            show some ((⟨k.toArray⟩ : ByteArray) == ⟨q.toArray⟩) = some false
            rw [gT_, decide_eq_false hk.1]
          simp only [Instr.findNow, hs]
          exact ih es (i + 1) h.2 hk.2
    exact this ks es 0 h hk)
  sf := fun k es ks i e h hn hi he => ba_ hu (by
    have : ∀ (ks : List Str) (es : List MapEntry) (j i : Nat), es.map (·.key) = ks.map str → ks.Nodup → ks[i]? = some k → es[i]? = some e → Instr.findNow .string (str k) es j = some (some (j + i, e.val)) := by
      intro ks
      induction ks with
      | nil => intro es j i _ _ h; simp at h
      | cons q ks ih =>
        intro es j i h hn hi he
        cases es with
        | nil => simp at h
        | cons x es =>
          simp only [List.map_cons, List.cons.injEq] at h
          rw [List.nodup_cons] at hn
          cases i with
          | zero =>
            simp only [List.getElem?_cons_zero, Option.some.injEq] at hi he
            subst hi; subst he
            have hs : Instr.sameNow .string (str q) x.key = some true := by
              rw [h.1]
              show some ((⟨q.toArray⟩ : ByteArray) == ⟨q.toArray⟩) = some true
              rw [gT_, decide_eq_true rfl]
            simp only [Instr.findNow, hs, Nat.add_zero]
          | succ i =>
            simp only [List.getElem?_cons_succ] at hi he
            have hne : k ≠ q := fun e => hn.1 (e ▸ List.mem_of_getElem? hi)
            have hs : Instr.sameNow .string (str k) x.key = some false := by
              rw [h.1]
              show some ((⟨k.toArray⟩ : ByteArray) == ⟨q.toArray⟩) = some false
              rw [gT_, decide_eq_false hne]
            simp only [Instr.findNow, hs]
            rw [ih es (j + 1) i h.2 hn.2 hi he, show j + 1 + i = j + (i + 1) by omega]
    have := this ks es 0 i h hn hi he
    rwa [Nat.zero_add] at this)
  same := fun k => by
    have key : ∀ m, Instr.sameBits m (str k) (str k) = true := fun m => by
      cases m <;> (show ((⟨k.toArray⟩ : ByteArray) == ⟨k.toArray⟩) = true; rw [gT_, decide_eq_true rfl])
    exact key 10000
theorem iF_ {K : Type} [DecidableEq K] {kt : TypeId} {fs : Array Field} {kv : K → Value} (hu : P.underlying kt = some (.struct fs)) (hok : ∀ k, fY_ P kt (kv k)) (heq : ∀ p q w, (Op.equal kt (kv p) (kv q)).run P w = .ok (decide (p = q)) w) (hsame : ∀ k, Instr.sameBits 10000 (kv k) (kv k) = true) : KeyT P kt kv where
  ok := hok
  nf := fun k es ks h hk => (eJ_ hu heq k ks es h).1 hk
  sf := fun k es ks i e h hn hi he => by
    have key : ∀ (ks : List K) (es : List MapEntry) (j i : Nat), es.map (·.key) = ks.map kv → ks.Nodup → ks[i]? = some k → es[i]? = some e → ∀ w, (Instr.findAsking kt (kv k) es j).run P w = .ok (some (j + i, e.val)) w := by
      intro ks
      induction ks with
      | nil => intro es j i _ _ h; simp at h
      | cons q ks ih =>
        intro es j i h hn hi he w
        cases es with
        | nil => simp at h
        | cons x es =>
          simp only [List.map_cons, List.cons.injEq] at h
          rw [List.nodup_cons] at hn
          cases i with
          | zero =>
            simp only [List.getElem?_cons_zero, Option.some.injEq] at hi he
            subst hi; subst he
            simp only [Instr.findAsking, Sem.run_bind, h.1, heq, Result.andThen_ok, decide_true, if_true, Sem.run_pure, Nat.add_zero]
          | succ i =>
            simp only [List.getElem?_cons_succ] at hi he
            have hne : k ≠ q := fun e => hn.1 (e ▸ List.mem_of_getElem? hi)
            simp only [Instr.findAsking, Sem.run_bind, h.1, heq, Result.andThen_ok, hne, decide_false, Bool.false_eq_true, if_false]
            rw [ih es (j + 1) i h.2 hn.2 hi he w, show j + 1 + i = j + (i + 1) by omega]
    intro w
    have hnow : ∀ (x : MapEntry) (r : List MapEntry), Instr.findNow (.struct fs) (kv k) (x :: r) 0 = none := fun x r => by simp [Instr.findNow, Instr.sameNow]
    cases es with
    | nil => simp at he
    | cons x r =>
      simp only [Instr.findKey, Sem.run_bind, run_underlying hu, Result.andThen_ok, hnow]
      have := key ks (x :: r) 0 i h hn hi he w
      rwa [Nat.zero_add] at this
  same := hsame
end
theorem gu_ (n : Nat) (s : List UInt8) : Instr.sameBits n (str s) (str s) = true := by
  cases n <;> (show ((⟨s.toArray⟩ : ByteArray) == ⟨s.toArray⟩) = true; rw [gT_, decide_eq_true rfl])
theorem kF_ {n : Nat} {l : List Value} (h : ∀ v ∈ l, Instr.sameBits n v v = true) : Instr.sameBits (n + 1) (.agg l.toArray) (.agg l.toArray) = true := by
  simp only [Instr.sameBits, BEq.rfl, Bool.true_and, List.all_eq_true]
  intro p hp
  have : ∀ (l : List Value), (∀ v ∈ l, Instr.sameBits n v v = true) → ∀ p ∈ l.zip l, Instr.sameBits n p.1 p.2 = true := by
    intro l
    induction l with
    | nil => intro _ p hp; simp at hp
    | cons a l ih =>
      intro h p hp
      simp only [List.zip_cons_cons, List.mem_cons] at hp
      rcases hp with rfl | hp
      · exact h a (by simp)
      · exact ih (fun v hv => h v (by simp [hv])) p hp
  exact this l h p hp
structure Born (es : Array MapEntry) (c : Nat) : Prop where
  lt : ∀ x ∈ es.toList, x.born < c
  nd : (es.toList.map (·.born)).Nodup
theorem Born.nil (c : Nat) : Born #[] c := ⟨by simp, by simp⟩
theorem Born.push {es : Array MapEntry} {c : Nat} (h : Born es c) (key val : Value) : Born (es.push ⟨key, val, c⟩) (c + 1) := by
  refine ⟨fun x hx => ?_, ?_⟩
  · rw [Array.toList_push, List.mem_append] at hx
    rcases hx with hx | hx
    · exact Nat.lt_succ_of_lt (h.lt x hx)
    · rw [List.mem_singleton] at hx; rw [hx]; exact Nat.lt_succ_self _
  · rw [Array.toList_push, List.map_append, List.nodup_append]
    refine ⟨h.nd, by simp, fun a ha b hb e => ?_⟩
    obtain ⟨x, hx, rfl⟩ := List.mem_map.1 ha
    simp at hb
    have := h.lt x hx
    omega
theorem Born.modify {es : Array MapEntry} {c : Nat} (h : Born es c) (i : Nat) (f : MapEntry → MapEntry) (hf : ∀ e, (f e).born = e.born) : Born (es.modify i f) c := by
  have hb : (es.modify i f).toList.map (·.born) = es.toList.map (·.born) := by
    apply List.ext_getElem?
    intro j
    simp only [List.getElem?_map, Array.getElem?_toList, Array.getElem?_modify]
    split
    · cases es[j]? <;> simp [hf]
    · rfl
  refine ⟨fun x hx => ?_, by rw [hb]; exact h.nd⟩
  have : x.born ∈ (es.modify i f).toList.map (·.born) := List.mem_map_of_mem hx
  rw [hb] at this
  obtain ⟨y, hy, e⟩ := List.mem_map.1 this
  rw [← e]; exact h.lt y hy
section
variable {K D : Type} [DecidableEq K] (kv : K → Value) (cells : D → List Value) (e : TypeId) (sz : Nat) (l : List (K × D))
def ew_ : List K → List MapEntry → Hp → Prop
  | [], [], H => H = []
  | k :: ks, x :: es, H => ∃ Hk Hr, H = Hk ++ Hr ∧ x.key = kv k ∧ bk_ e sz x.val (lat l k).length ((lat l k).flatMap cells) Hk ∧ ew_ ks es Hr
  | _, _, _ => False
def eg_ (mb : Nat) (H : Hp) : Prop := ∃ ks es c Hr, H = (mb, .map es c) :: Hr ∧ ks.Nodup ∧ (∀ x ∈ l, x.1 ∈ ks) ∧ ew_ kv cells e sz l ks es.toList Hr ∧ Born es c
end
section
variable {K D : Type} [DecidableEq K] {kv : K → Value} {cells : D → List Value} {e : TypeId} {sz : Nat} {l : List (K × D)}
theorem ew_.keys : ∀ {ks : List K} {es : List MapEntry} {H : Hp}, ew_ kv cells e sz l ks es H → es.map (·.key) = ks.map kv
  | [], [], _, _ => rfl
  | k :: ks, x :: es, _, h => by
    obtain ⟨Hk, Hr, _, h1, _, h2⟩ := h
    simp [h1, h2.keys]
  | [], _ :: _, _, h => h.elim
  | _ :: _, [], _, h => h.elim
theorem ew_.congr {l' : List (K × D)} : ∀ {ks : List K} {es : List MapEntry} {H : Hp}, (∀ k ∈ ks, lat l' k = lat l k) → ew_ kv cells e sz l ks es H → ew_ kv cells e sz l' ks es H
  | [], [], _, _, h => h
  | k :: ks, x :: es, _, hl, h => by
    obtain ⟨Hk, Hr, h0, h1, h2, h3⟩ := h
    exact ⟨Hk, Hr, h0, h1, by rw [hl k (by simp)]; exact h2, h3.congr fun q hq => hl q (by simp [hq])⟩
  | [], _ :: _, _, _, h => h.elim
  | _ :: _, [], _, _, h => h.elim
theorem ew_.get : ∀ {ks : List K} {es : List MapEntry} {H : Hp} {i : Nat} {k : K}, ew_ kv cells e sz l ks es H → ks.Nodup → ks[i]? = some k → ∃ x Hk Hr, es[i]? = some x ∧ H.Perm (Hk ++ Hr) ∧ x.key = kv k ∧ bk_ e sz x.val (lat l k).length ((lat l k).flatMap cells) Hk ∧
      ∀ (l' : List (K × D)) (y : MapEntry) (Hk' : Hp), y.key = kv k → (∀ q, q ≠ k → lat l' q = lat l q) → bk_ e sz y.val (lat l' k).length ((lat l' k).flatMap cells) Hk' → ∃ H', ew_ kv cells e sz l' ks (es.set i y) H' ∧ H'.Perm (Hk' ++ Hr)
  | [], _, _, _, _, _, _, h => by simp at h
  | _ :: _, [], _, _, _, h, _, _ => h.elim
  | q :: ks, x :: es, H, 0, k, h, hn, hi => by
    simp only [List.getElem?_cons_zero, Option.some.injEq] at hi
    subst hi
    rw [List.nodup_cons] at hn
    obtain ⟨Hk, Hr, h0, h1, h2, h3⟩ := h
    exact ⟨x, Hk, Hr, rfl, h0 ▸ .refl _, h1, h2, fun l' y Hk' g1 g2 g3 => ⟨Hk' ++ Hr, ⟨Hk', Hr, rfl, g1, g3, h3.congr fun z hz => g2 z (fun e => hn.1 (e ▸ hz))⟩, .refl _⟩⟩
  | q :: ks, x :: es, H, i + 1, k, h, hn, hi => by
    simp only [List.getElem?_cons_succ] at hi
    rw [List.nodup_cons] at hn
    obtain ⟨Hq, Ho, h0, h1, h2, h3⟩ := h
    obtain ⟨y, Hk, Hr, i1, i2, i3, i4, i5⟩ := h3.get hn.2 hi
    have hne : q ≠ k := fun e => hn.1 (e ▸ List.mem_of_getElem? hi)
    refine ⟨y, Hk, Hq ++ Hr, i1, ?_, i3, i4, fun l' z Hk' g1 g2 g3 => ?_⟩
    · rw [h0]
      refine (List.Perm.append_left Hq i2).trans ?_
      rw [← List.append_assoc, ← List.append_assoc]
      exact List.perm_append_comm.append_right _
    · obtain ⟨H', j1, j2⟩ := i5 l' z Hk' g1 g2 g3
      refine ⟨Hq ++ H', ⟨Hq, H', rfl, h1, by rw [g2 q hne]; exact h2, j1⟩, (List.Perm.append_left Hq j2).trans ?_⟩
      rw [← List.append_assoc, ← List.append_assoc]
      exact List.perm_append_comm.append_right _
theorem ew_.push : ∀ {ks : List K} {es : List MapEntry} {H : Hp} {k : K} {x : MapEntry} {Hk : Hp}, ew_ kv cells e sz l ks es H → x.key = kv k → bk_ e sz x.val (lat l k).length ((lat l k).flatMap cells) Hk → ew_ kv cells e sz l (ks ++ [k]) (es ++ [x]) (H ++ Hk)
  | [], [], _, k, x, Hk, h, h1, h2 => by subst h; exact ⟨Hk, [], by simp, h1, h2, rfl⟩
  | q :: ks, y :: es, _, k, x, Hk, h, h1, h2 => by
    obtain ⟨Hq, Hr, rfl, g1, g2, g3⟩ := h
    exact ⟨Hq, Hr ++ Hk, by simp, g1, g2, g3.push h1 h2⟩
  | [], _ :: _, _, _, _, _, h, _, _ => h.elim
  | _ :: _, [], _, _, _, _, h, _, _ => h.elim
theorem hi_ {k q : K} {d : D} (h : q ≠ k) : lat (l ++ [(k, d)]) q = lat l q := by
  rw [gL_]; simp [lat, Ne.symm h]
theorem cE_ {k : K} {d : D} : lat (l ++ [(k, d)]) k = lat l k ++ [d] := by
  rw [gL_]; simp [lat]
theorem eg_.open {P : Program} {kt : TypeId} (hK : KeyT P kt kv) {mb : Nat} {H : Hp} (h : eg_ kv cells e sz l mb H) (k : K) :
    ∃ es c sv Hk Hr, H.Perm ((mb, .map es c) :: (Hk ++ Hr)) ∧ bk_ e sz sv (lat l k).length ((lat l k).flatMap cells) Hk ∧
      ((cH_ P kt (kv k) es.toList none ∧ sv = .slice none 0 0 ∧ ∀ d sv' Hk', bk_ e sz sv' (lat (l ++ [(k, d)]) k).length ((lat (l ++ [(k, d)]) k).flatMap cells) Hk' → ∃ H', eg_ kv cells e sz (l ++ [(k, d)]) mb H' ∧ H'.Perm ((mb, .map (es.push ⟨kv k, sv', c⟩) (c + 1)) :: (Hk' ++ Hr))) ∨
       (∃ i x, cH_ P kt (kv k) es.toList (some (i, sv)) ∧ es[i]? = some x ∧ x.key = kv k ∧ x.val = sv ∧ ∀ d sv' Hk', bk_ e sz sv' (lat (l ++ [(k, d)]) k).length ((lat (l ++ [(k, d)]) k).flatMap cells) Hk' → ∃ H', eg_ kv cells e sz (l ++ [(k, d)]) mb H' ∧ H'.Perm ((mb, .map (es.modify i fun y => { y with key := kv k, val := sv' }) c) :: (Hk' ++ Hr)))) := by
  obtain ⟨ks, es, c, Ho, rfl, hn, hl, hm, hbn⟩ := h
  by_cases hk : k ∈ ks
  · obtain ⟨i, hi⟩ := List.getElem?_of_mem hk
    obtain ⟨x, Hk, Hr, g1, g2, g3, g4, g5⟩ := hm.get hn hi
    have hx : es[i]? = some x := by rw [← Array.getElem?_toList]; exact g1
    refine ⟨es, c, x.val, Hk, Hr, .cons _ g2, g4, .inr ⟨i, x, hK.sf k es.toList ks i x hm.keys hn hi g1, hx, g3, rfl, fun d sv' Hk' hs => ?_⟩⟩
    obtain ⟨H', j1, j2⟩ := g5 (l ++ [(k, d)]) { x with key := kv k, val := sv' } Hk' rfl (fun q hq => hi_ hq) hs
    refine ⟨(mb, .map (es.modify i fun y => { y with key := kv k, val := sv' }) c) :: H', ⟨ks, _, c, H', rfl, hn, fun y hy => ?_, ?_, hbn.modify i _ fun _ => rfl⟩, .cons _ j2⟩
    · rcases List.mem_append.1 hy with hy | hy
      · exact hl y hy
      · simp at hy; rw [hy]; exact hk
    · have e1 : (es.modify i fun y => { y with key := kv k, val := sv' }).toList = es.toList.set i { x with key := kv k, val := sv' } := by
        apply List.ext_getElem?
        intro j
        rw [Array.getElem?_toList, Array.getElem?_modify, List.getElem?_set, Array.getElem?_toList]
        by_cases hij : i = j
        · subst hij
          have hlt : i < es.toList.length := (List.getElem?_eq_some_iff.1 g1).1
          simp only [if_true, hx, Option.map_some, if_pos hlt]
        · simp [hij]
      rw [e1]; exact j1
  · have hlat : lat l k = [] := by
      apply List.eq_nil_iff_forall_not_mem.2
      intro d hd
      exact hk (hl _ (gl_.1 hd))
    refine ⟨es, c, .slice none 0 0, [], Ho, .refl _, by rw [hlat]; exact bk_.nil _ _, .inl ⟨hK.nf k es.toList ks hm.keys hk, rfl, fun d sv' Hk' hs => ?_⟩⟩
    refine ⟨(mb, .map (es.push ⟨kv k, sv', c⟩) (c + 1)) :: (Ho ++ Hk'), ⟨ks ++ [k], _, _, _, rfl, ?_, fun y hy => ?_, ?_, hbn.push _ _⟩, .cons _ List.perm_append_comm⟩
    · rw [List.nodup_append]; exact ⟨hn, by simp, fun a ha b hb e => by simp at hb; subst hb; subst e; exact hk ha⟩
    · rcases List.mem_append.1 hy with hy | hy
      · exact List.mem_append_left _ (hl y hy)
      · simp at hy; simp [hy]
    · rw [Array.toList_push]
      exact (hm.congr fun q hq => hi_ (fun (e : q = k) => hk (e ▸ hq))).push rfl hs
theorem eg_.nil (mb : Nat) (c : Nat) : eg_ kv cells e sz ([] : List (K × D)) mb [(mb, .map #[] c)] := ⟨[], #[], c, [], rfl, List.nodup_nil, by simp, rfl, Born.nil c⟩
def mlF (P : Program) (kt : TypeId) (kv : K → Value) (cells : D → List Value) (mb : Nat) (l : List (K × D)) (adr : K → Option Addr × Nat) : Fct where
  p := fun v => v.im mb ∧ ∃ es c, v.w.heap[mb]? = some (.map es c) ∧ ∀ k, bq_ v (adr k).1 ((lat l k).flatMap cells) ∧
    ((cH_ P kt (kv k) es.toList none ∧ Value.slice (adr k).1 (lat l k).length (adr k).2 = .slice none 0 0) ∨ ∃ i, cH_ P kt (kv k) es.toList (some (i, .slice (adr k).1 (lat l k).length (adr k).2)))
  mono := fun v v' h ⟨h1, es, c, h2, h3⟩ => ⟨h.imUp mb h1, es, c, by rw [h.block mb h1]; exact h2, fun k => ⟨(bQ_ _ _).mono v v' h (h3 k).1, (h3 k).2⟩⟩
theorem gk_ {P : Program} {kt : TypeId} {mb : Nat} {adr : K → Option Addr × Nat} {v : Vw} (h : (mlF P kt kv cells mb l adr).p v) (k : K) : bq_ v (adr k).1 ((lat l k).flatMap cells) := by
  obtain ⟨_, _, _, _, h⟩ := h
  exact (h k).1
theorem jM_ {sv : Value} {n : Nat} {xs : List Value} {Hr : Hp} {v : Vw} (h : bk_ e sz sv n xs Hr) (hv : ∀ p ∈ Hr, v.im p.1 ∧ v.w.heap[p.1]? = some p.2) : ∃ ad cap, sv = .slice ad n cap ∧ n ≤ cap ∧ cap ≤ maxLen ∧ (n ≠ 0 → ∃ b, ad = some ⟨b, 0, none⟩) ∧ bq_ v ad xs := by
  rcases h.2 with ⟨rfl, rfl, rfl⟩ | ⟨g, cap, cur, rfl, rfl, h3, h4, h5, h6⟩
  · have : xs = [] := List.eq_nil_of_length_eq_zero (by simpa using h.1)
    exact ⟨none, 0, rfl, Nat.le_refl _, by simp [maxLen], fun h => absurd rfl h, .inl this⟩
  · obtain ⟨g1, g2⟩ := hv _ (List.mem_singleton.2 rfl)
    refine ⟨some ⟨g, 0, none⟩, cap, rfl, h3, h4, fun _ => ⟨g, rfl⟩, .inr ⟨g, 0, cur, e, (0, 0), rfl, g1, g2, fun j x hj => ?_⟩⟩
    rw [← h6, List.getElem?_take] at hj
    split at hj
    · rw [Nat.zero_add, ← Array.getElem?_toList]; exact hj
    · cases hj
theorem eg_.lent {P : Program} {kt : TypeId} (hK : KeyT P kt kv) {mb : Nat} {H : Hp} (h : eg_ kv cells e sz l mb H) : ∃ adr, ∀ v : Vw, (∀ p ∈ H, v.im p.1 ∧ v.w.heap[p.1]? = some p.2) → (mlF P kt kv cells mb l adr).p v := by
  have h0 := h
  obtain ⟨ks, es, c, Ho, rfl, hn, hl, hm, _⟩ := h0
  have key : ∀ k, ∃ q : Option Addr × Nat, ∀ v : Vw, (∀ p ∈ (mb, Obj.map es c) :: Ho, v.im p.1 ∧ v.w.heap[p.1]? = some p.2) → bq_ v q.1 ((lat l k).flatMap cells) ∧ ((cH_ P kt (kv k) es.toList none ∧ Value.slice q.1 (lat l k).length q.2 = .slice none 0 0) ∨ ∃ i, cH_ P kt (kv k) es.toList (some (i, .slice q.1 (lat l k).length q.2))) := fun k => by
    by_cases hk : k ∈ ks
    · obtain ⟨i, hi⟩ := List.getElem?_of_mem hk
      obtain ⟨x, Hk, Hr, g1, g2, g3, g4, _⟩ := hm.get hn hi
      have hf := hK.sf k es.toList ks i x hm.keys hn hi g1
      have hsl : ∃ ad cap, x.val = .slice ad (lat l k).length cap := by
        rcases g4.2 with ⟨q1, q2, _⟩ | ⟨g, cap, cur, q1, _⟩
        · exact ⟨none, 0, by rw [q1, q2]⟩
        · exact ⟨_, cap, q1⟩
      obtain ⟨ad, cap, hx⟩ := hsl
      refine ⟨(ad, cap), fun v hv => ⟨?_, .inr ⟨i, by rw [← hx]; exact hf⟩⟩⟩
      obtain ⟨ad', cap', e1, _, _, _, hr⟩ := jM_ g4 fun p hp => hv p (List.mem_cons_of_mem _ (g2.mem_iff.2 (List.mem_append_left _ hp)))
      rw [hx] at e1
      simp only [Value.slice.injEq] at e1
      rw [e1.1]; exact hr
    · have hlat : lat l k = [] := by
        apply List.eq_nil_iff_forall_not_mem.2
        intro d hd
        exact hk (hl _ (gl_.1 hd))
      exact ⟨(none, 0), fun v hv => ⟨.inl (by rw [hlat]; rfl), .inl ⟨hK.nf k es.toList ks hm.keys hk, by rw [hlat]; rfl⟩⟩⟩
  refine ⟨fun k => (key k).choose, fun v hv => ?_⟩
  obtain ⟨g1, g2⟩ := hv _ List.mem_cons_self
  exact ⟨g1, es, c, g2, fun k => (key k).choose_spec v hv⟩
end
section
variable {P : Program} {K : Type} [DecidableEq K] {kv : K → Value} {kt : TypeId}
structure SetE (kv : K → Value) (es : Array MapEntry) (q : List K) : Prop where
  keys : es.toList.map (·.key) = q.map kv
  vals : ∀ x ∈ es.toList, x.val = .bool true
  nd : q.Nodup
theorem SetE.nil : SetE kv #[] ([] : List K) := ⟨rfl, by simp, List.nodup_nil⟩
theorem SetE.size {es : Array MapEntry} {q : List K} (h : SetE kv es q) : es.size = q.length := by
  have := congrArg List.length h.keys
  simpa using this
theorem SetE.yes (hK : KeyT P kt kv) {es : Array MapEntry} {q : List K} (h : SetE kv es q) {k : K} (hk : k ∈ q) : ∃ i x, q[i]? = some k ∧ es[i]? = some x ∧ x.key = kv k ∧ x.val = .bool true ∧ cH_ P kt (kv k) es.toList (some (i, .bool true)) := by
  obtain ⟨i, hi⟩ := List.getElem?_of_mem hk
  have hlt : i < es.toList.length := by
    have := (List.getElem?_eq_some_iff.1 hi).1
    have e := congrArg List.length h.keys
    simp at e this ⊢; omega
  have hx := List.getElem?_eq_getElem hlt
  have hv := h.vals _ (List.getElem_mem hlt)
  have hkey : es.toList[i].key = kv k := by
    have := congrArg (fun l => l[i]?) h.keys
    simp only [List.getElem?_map, hx, hi, Option.map_some, Option.some.injEq] at this
    exact this
  refine ⟨i, es.toList[i], hi, by rw [← Array.getElem?_toList]; exact hx, hkey, hv, ?_⟩
  have := hK.sf k es.toList q i _ h.keys h.nd hi hx
  rwa [hv] at this
theorem SetE.no (hK : KeyT P kt kv) {es : Array MapEntry} {q : List K} (h : SetE kv es q) {k : K} (hk : k ∉ q) : cH_ P kt (kv k) es.toList none := hK.nf k es.toList q h.keys hk
theorem SetE.push {es : Array MapEntry} {q : List K} (h : SetE kv es q) {k : K} (hk : k ∉ q) (c : Nat) : SetE kv (es.push ⟨kv k, .bool true, c⟩) (q ++ [k]) := by
  refine ⟨by simp [h.keys], fun x hx => ?_, ?_⟩
  · rw [Array.toList_push, List.mem_append] at hx
    rcases hx with hx | hx
    · exact h.vals x hx
    · simp at hx; rw [hx]
  · rw [List.nodup_append]; exact ⟨h.nd, by simp, fun a ha b hb e => by simp at hb; subst hb; subst e; exact hk ha⟩
end
section ops
variable {P : Program} {N : Nf} {v0 : Vw} {H0 : Hp} {R : Exit → Act → World → Prop} {Kk : List Kt} {fr : Fr} {H : Hp} {Γ : List Fct}
variable {ops : Array Oper} {lo : List Oper} {d : Nat} {ty : TypeId} {ps : String} {af : Array Edge}
variable {K D : Type} [DecidableEq K] {kv : K → Value} {cells : D → List Value}
theorem gX_ {t kt et : TypeId} {x y : Operand} {mb : Nat} {l : List (K × D)} {adr : K → Option Addr × Nat} {k : K} (hK : KeyT P kt kv) (hu : ∀ w, (underlying t).run P w = .ok (.map kt et) w) (hz : ∀ w, (zeroValue et).run P w = .ok (.slice none 0 0) w) (hx : Fr.ev fr x = some (.map (some mb))) (hy : Fr.ev fr y = some (kv k))
    (hm : ∀ v, v.sat H → ap_ Γ v → (mlF P kt kv cells mb l adr).p v) : Yld P N fr H Γ (.lookup t x y false) ty (.slice (adr k).1 (lat l k).length (adr k).2) :=
  fun a v h1 h2 h4 _ _ _ => by
    obtain ⟨_, es, c, g1, g2⟩ := hm v h2 h4
    have hb := MapKept.run_getObj_map (P := P) g1
    rcases (g2 k).2 with ⟨q5, q6⟩ | ⟨i, q5⟩
    · rw [q6]; simp [execOp, h1.ev hx, h1.ev hy, Instr.lookup, hu, hb, hK.ok _ _ _, q5 _, hz]
    · simp [execOp, h1.ev hx, h1.ev hy, Instr.lookup, hu, hb, hK.ok _ _ _, q5 _]
theorem fU_ {t kt et : TypeId} {x y : Operand} {mb c : Nat} {es : Array MapEntry} {q : List K} {k : K} (hK : KeyT P kt kv) (hu : ∀ w, (underlying t).run P w = .ok (.map kt et) w) (hz : ∀ w, (zeroValue et).run P w = .ok (.bool false) w) (hx : Fr.ev fr x = some (.map (some mb))) (hy : Fr.ev fr y = some (kv k))
    (hq : SetE kv es q) (hm : ∀ v, v.sat H → ap_ Γ v → v.w.heap[mb]? = some (.map es c)) : Yld P N fr H Γ (.lookup t x y false) ty (.bool (decide (k ∈ q))) := by
  by_cases hk : k ∈ q
  · obtain ⟨i, _, _, _, _, _, hf⟩ := hq.yes hK hk
    rw [decide_eq_true hk]
    exact dR_ hu hx hy hm (hK.ok k) hf
  · rw [decide_eq_false hk]
    exact dl_ hu hz hx hy hm (hK.ok k) (hq.no hK hk)
theorem gB_ {o : Op} {t kt et : TypeId} {x y z : Operand} {b c i : Nat} (n : Nat) {es : Array MapEntry} {e : MapEntry} {k : K} {u u' : Value} (hK : KeyT P kt kv) (ho : o = .insert t x y z ∨ o = .mapUpdate t x y z) (hu : ∀ w, (underlying t).run P w = .ok (.map kt et) w)
    (hx : Fr.ev fr x = some (.map (some b))) (hy : Fr.ev fr y = some (kv k)) (hz : Fr.ev fr z = some u) (hi : H[n]? = some (b, .map es c)) (hf : cH_ P kt (kv k) es.toList (some (i, u'))) (he : es[i]? = some e) (hek : e.key = kv k)
    (hkk : Ops P R N v0 H0 ops lo Kk fr (H.set n (b, .map (es.modify i fun y => { y with key := kv k, val := u }) c)) Γ) : Ops P R N v0 H0 ops (⟨none, o, ty, ps, af, none⟩ :: lo) Kk fr H Γ :=
  dg_ rfl fun a v h1 h2 h3 h4 => by
    have hb := (h2.own _ (List.mem_of_getElem? hi)).1
    have hg := MapKept.run_getObj_map (P := P) hb
    have hs := MapKept.run_setObj_map (P := P) (.map (es.modify i fun y => { y with key := kv k, val := u }) c) hb
    have he : (execOp a.eval ⟨none, o, ty, ps, af, none⟩).run P v.w = .ok .skip { v.w with heap := v.w.heap.setIfInBounds b (.map (es.modify i fun y => { y with key := kv k, val := u }) c) } := by
      rcases ho with rfl | rfl <;> simp [execOp, h1.ev hx, h1.ev hy, h1.ev hz, Instr.mapUpdate, hu, hg, hK.ok _ _ _, hf _, hs, Instr.keyThatStays, he, hek, hK.same]
    unfold Oper.wp
    rw [he]
    have hh := MapKept.heap_set (o' := .map (es.modify i fun y => { y with key := kv k, val := u }) c) hb
    obtain ⟨g1, g2⟩ := fx_ (w' := { v.w with heap := v.w.heap.setIfInBounds b (.map (es.modify i fun y => { y with key := kv k, val := u }) c) }) h2 hi rfl rfl rfl (Nat.le_refl _) (by simp) hh.1 (fun k hk => hh.2 k hk)
    exact hkk a _ h1 g1 (h3.trans g2) (bj_ (g2.le h2) h4)
theorem iy_ {es : Array MapEntry} {i : Nat} {e : MapEntry} {key val : Value} (he : es[i]? = some e) (hk : e.key = key) (hv : e.val = val) : (es.modify i fun y => { y with key := key, val := val }) = es := by
  apply Array.ext_getElem?
  intro j
  rw [Array.getElem?_modify]
  by_cases hij : i = j
  · subst hij; rw [if_pos rfl, he]; simp only [Option.map_some]; rw [← hk, ← hv]
  · rw [if_neg hij]
theorem iq_ {o : Op} {t kt et : TypeId} {x y z : Operand} {b c : Nat} (n : Nat) {es : Array MapEntry} {q : List K} {k : K} (hK : KeyT P kt kv) (ho : o = .insert t x y z ∨ o = .mapUpdate t x y z) (hu : ∀ w, (underlying t).run P w = .ok (.map kt et) w)
    (hx : Fr.ev fr x = some (.map (some b))) (hy : Fr.ev fr y = some (kv k)) (hz : Fr.ev fr z = some (.bool true)) (hi : H[n]? = some (b, .map es c)) (hq : SetE kv es q)
    (hkk : ∀ es' c', SetE kv es' (if k ∈ q then q else q ++ [k]) → Ops P R N v0 H0 ops lo Kk fr (H.set n (b, .map es' c')) Γ) : Ops P R N v0 H0 ops (⟨none, o, ty, ps, af, none⟩ :: lo) Kk fr H Γ := by
  by_cases hk : k ∈ q
  · obtain ⟨i, e, g1, g2, g3, g4, g5⟩ := hq.yes hK hk
    refine gB_ n hK ho hu hx hy hz hi g5 g2 g3 ?_
    rw [iy_ g2 g3 g4]
    exact hkk es c (by rw [if_pos hk]; exact hq)
  · exact bg_ n ho hu hx hy hz hi (hK.ok k) (hq.no hK hk) (hkk _ _ (by rw [if_neg hk]; exact hq.push hk c))
def MOp (P : Program) (kt : TypeId) (kv : K → Value) (cells : D → List Value) (e : TypeId) (sz : Nat) (l : List (K × D)) (mb : Nat) (k : K) (es : Array MapEntry) (c : Nat) (sv : Value) (Hr : Hp) : Prop :=
  (cH_ P kt (kv k) es.toList none ∧ sv = .slice none 0 0 ∧ ∀ d sv' Hk', bk_ e sz sv' (lat (l ++ [(k, d)]) k).length ((lat (l ++ [(k, d)]) k).flatMap cells) Hk' → ∃ H', eg_ kv cells e sz (l ++ [(k, d)]) mb H' ∧ H'.Perm ((mb, .map (es.push ⟨kv k, sv', c⟩) (c + 1)) :: (Hk' ++ Hr))) ∨
  (∃ i x, cH_ P kt (kv k) es.toList (some (i, sv)) ∧ es[i]? = some x ∧ x.key = kv k ∧ x.val = sv ∧ ∀ d sv' Hk', bk_ e sz sv' (lat (l ++ [(k, d)]) k).length ((lat (l ++ [(k, d)]) k).flatMap cells) Hk' → ∃ H', eg_ kv cells e sz (l ++ [(k, d)]) mb H' ∧ H'.Perm ((mb, .map (es.modify i fun y => { y with key := kv k, val := sv' }) c) :: (Hk' ++ Hr)))
theorem fb_ {k0 : Act → World → Prop} {kt : TypeId} {mb : Nat} {e : TypeId} {sz : Nat} {l : List (K × D)} {Hm F : Hp} (hK : KeyT P kt kv) (k : K) (hm : eg_ kv cells e sz l mb Hm) (hH : H.Perm (Hm ++ F))
    (h : ∀ es c sv Hk Hr, bk_ e sz sv (lat l k).length ((lat l k).flatMap cells) Hk → MOp P kt kv cells e sz l mb k es c sv Hr → Ok N v0 H0 k0 fr ((mb, .map es c) :: (Hk ++ (Hr ++ F))) Γ) : Ok N v0 H0 k0 fr H Γ := by
  obtain ⟨es, c, sv, Hk, Hr, p1, p2, p3⟩ := hm.open hK k
  refine Y_ (hH.trans (by
    have := p1.append_right F
    simpa [List.append_assoc] using this)) (h es c sv Hk Hr p2 p3)
theorem cr_ {t kt et : TypeId} {x y : Operand} {mb c : Nat} {e : TypeId} {sz : Nat} {l : List (K × D)} {k : K} {es : Array MapEntry} {sv : Value} {Hr : Hp} (hK : KeyT P kt kv) (ho : MOp P kt kv cells e sz l mb k es c sv Hr) (hu : ∀ w, (underlying t).run P w = .ok (.map kt et) w) (hz : ∀ w, (zeroValue et).run P w = .ok (.slice none 0 0) w)
    (hx : Fr.ev fr x = some (.map (some mb))) (hy : Fr.ev fr y = some (kv k)) (i : Nat) (hi : H[i]? = some (mb, .map es c)) : Yld P N fr H Γ (.lookup t x y false) ty sv := by
  have hm : ∀ v, v.sat H → ap_ Γ v → v.w.heap[mb]? = some (.map es c) := fun v h _ => (h.own _ (List.mem_of_getElem? hi)).1
  rcases ho with ⟨h1, rfl, _⟩ | ⟨i, z, h1, _⟩
  · exact dl_ hu hz hx hy hm (hK.ok k) h1
  · exact dR_ hu hx hy hm (hK.ok k) h1
theorem ca_ {o : Op} {t kt et : TypeId} {x y z : Operand} {mb c : Nat} {e : TypeId} {sz : Nat} {l : List (K × D)} {k : K} {dd : D} {es : Array MapEntry} {sv sv' : Value} {Hk Hr F : Hp} (hK : KeyT P kt kv) (ho : MOp P kt kv cells e sz l mb k es c sv Hr) (hr : bk_ e sz sv' (lat (l ++ [(k, dd)]) k).length ((lat (l ++ [(k, dd)]) k).flatMap cells) Hk)
    (hop : o = .insert t x y z ∨ o = .mapUpdate t x y z) (hu : ∀ w, (underlying t).run P w = .ok (.map kt et) w) (hx : Fr.ev fr x = some (.map (some mb))) (hy : Fr.ev fr y = some (kv k)) (hz : Fr.ev fr z = some sv') (hH : H.Perm ((mb, .map es c) :: (Hk ++ (Hr ++ F))))
    (hk : ∀ H', eg_ kv cells e sz (l ++ [(k, dd)]) mb H' → Ops P R N v0 H0 ops lo Kk fr (H' ++ F) Γ) : Ops P R N v0 H0 ops (⟨none, o, ty, ps, af, none⟩ :: lo) Kk fr H Γ := by
  refine Y_ hH ?_
  rcases ho with ⟨h1, _, h2⟩ | ⟨i, q, h1, h3, h4, _, h2⟩
  · obtain ⟨H', q1, q2⟩ := h2 dd sv' Hk hr
    refine bg_ 0 hop hu hx hy hz rfl (hK.ok k) h1 ?_
    simp only [List.set_cons_zero]
    exact Y_ (by have := (q2.append_right F).symm; simpa [List.append_assoc] using this) (hk H' q1)
  · obtain ⟨H', q1, q2⟩ := h2 dd sv' Hk hr
    refine gB_ 0 hK hop hu hx hy hz rfl h1 h3 h4 ?_
    simp only [List.set_cons_zero]
    exact Y_ (by have := (q2.append_right F).symm; simpa [List.append_assoc] using this) (hk H' q1)
theorem cD_ {b : Nat × Obj} {O Q F : Hp} (h : H.Perm ((b :: (O ++ Q)) ++ F)) : H.Perm (b :: (O ++ (Q ++ F))) := by simpa [List.append_assoc] using h
theorem cM_ {b : Nat × Obj} {F : Hp} (h : H.Perm ([b] ++ F)) : H.Perm (b :: F) := h
theorem aA_ {b : Nat × Obj} {F F' : Hp} (h : H.Perm ([b] ++ F)) (h2 : F.Perm F') : H.Perm (b :: F') := List.Perm.trans h (h2.cons b)
end ops
end Go.Sx
namespace Go.Vs
open Go Go.Sx
structure Rul where
  f : Str
  s : Str
  r : Str
  deriving DecidableEq
structure Itm where
  r : Str
  i : Nat
  j : Nat
  deriving DecidableEq
def Rul.cells (x : Rul) : List Value := [str x.f, str x.s, str x.r]
def Rul.val (x : Rul) : Value := .agg x.cells.toArray
theorem Rul.cells_len (x : Rul) : x.cells.length = 3 := rfl
def Itm.cells (x : Itm) : List Value := [str x.r, .int .i64 x.i, .int .i64 x.j]
def Itm.val (x : Itm) : Value := .agg x.cells.toArray
theorem Itm.cells_len (x : Itm) : x.cells.length = 3 := rfl
def Ax.rul (x : Ax) (i : Nat) : Rul := ⟨Lib.join (x.roles.take i) [46], x.roles.getD i [], if i + 1 = x.roles.length then x.role else Lib.join (x.roles.take (i + 1)) [46]⟩
def cP_ {α : Type} [DecidableEq α] (y : α) (l : List α) : List α := if y ∈ l then l else l ++ [y]
def ge_ (y : Itm) (T Q : List Itm) : List Itm := if y ∈ T then Q else Q ++ [y]
theorem aB_ {α : Type} [DecidableEq α] {y z : α} {l : List α} : z ∈ cP_ y l ↔ z ∈ l ∨ z = y := by
  unfold cP_
  by_cases h : y ∈ l
  · rw [if_pos h]; exact ⟨.inl, fun q => q.elim id fun e => e ▸ h⟩
  · rw [if_neg h, List.mem_append, List.mem_singleton]
theorem jE_ {α : Type} [DecidableEq α] {y : α} {l : List α} (h : l.Nodup) : (cP_ y l).Nodup := by
  unfold cP_
  by_cases hy : y ∈ l
  · rw [if_pos hy]; exact h
  · rw [if_neg hy, List.nodup_append]; exact ⟨h, by simp, fun a ha b hb e => by simp at hb; subst hb; subst e; exact hy ha⟩
theorem cO_ {α : Type} [DecidableEq α] {y : α} {l : List α} : (cP_ y l).length ≤ l.length + 1 := by
  unfold cP_
  split <;> simp
def Itm.In (U : List Str) (n : Nat) (x : Itm) : Prop := x.r ∈ U ∧ x.i ≤ x.j ∧ x.j ≤ n
def iS_ (U : List Str) (n : Nat) : List Itm := U.flatMap fun u => (List.range (n + 1)).flatMap fun i => (List.range (n + 1)).map fun j => ⟨u, i, j⟩
theorem gQ_ {α β : Type} (g : α → List β) (c : Nat) (hg : ∀ x, (g x).length = c) : ∀ l : List α, (l.flatMap g).length = l.length * c
  | [] => by simp
  | x :: l => by rw [List.flatMap_cons, List.length_append, gQ_ g c hg l, hg, List.length_cons, Nat.add_mul, Nat.one_mul, Nat.add_comm]
theorem iR_ (U : List Str) (n : Nat) : (iS_ U n).length = U.length * ((n + 1) * (n + 1)) :=
  gQ_ _ _ (fun u => by rw [gQ_ _ (n + 1) (fun i => by simp), List.length_range]) U
theorem ld_ {U : List Str} {n : Nat} {x : Itm} (h : x.In U n) : x ∈ iS_ U n := by
  unfold iS_
  rw [List.mem_flatMap]
  refine ⟨x.r, h.1, ?_⟩
  rw [List.mem_flatMap]
  have h1 := h.2.1
  have h2 := h.2.2
  exact ⟨x.i, by rw [List.mem_range]; omega, List.mem_map.2 ⟨x.j, by rw [List.mem_range]; omega, rfl⟩⟩
theorem kc_ {U : List Str} {n : Nat} {T : List Itm} (hn : T.Nodup) (h : ∀ x ∈ T, x.In U n) : T.length ≤ U.length * ((n + 1) * (n + 1)) := by
  rw [← iR_]
  exact hn.length_le_of_subset fun x hx => ld_ (h x hx)
section
variable {R : List Rul} {U : List Str} {n : Nat}
structure Rec (R : List Rul) (U : List Str) (n : Nat) (T Q : List Itm) : Prop where
  nd : T.Nodup
  qnd : Q.Nodup
  sub : ∀ y ∈ Q, y ∈ T
  bd : ∀ y ∈ T, y.In U n
  cl : ∀ p ∈ T, ∀ q ∈ T, p ∉ Q → q ∉ Q → p.j = q.i → ∀ y ∈ R, y.f = p.r → y.s = q.r → (⟨y.r, p.i, q.j⟩ : Itm) ∈ T
structure Stg (U : List Str) (n : Nat) (x : Itm) (T0 Q0 T Q : List Itm) : Prop where
  nd : T.Nodup
  qnd : Q.Nodup
  sub : ∀ y ∈ Q, y ∈ T
  bd : ∀ y ∈ T, y.In U n
  old : ∀ y ∈ T0, y ∈ T
  new : ∀ y ∈ T, y ∈ T0 ∨ y ∈ Q
  q0 : ∀ y ∈ Q0, y ∈ Q
  nx : x ∉ Q
  xT : x ∈ T
  len : T.length + Q0.length = T0.length + Q.length
theorem Rec.pop {T Q : List Itm} {x : Itm} (h : Rec R U n T (Q ++ [x])) : Stg U n x T Q T Q := by
  have hq := h.qnd
  rw [List.nodup_append] at hq
  exact ⟨h.nd, hq.1, fun y hy => h.sub y (by simp [hy]), h.bd, fun _ h => h, fun _ h => .inl h, fun _ h => h, fun hx => hq.2.2 x hx x (by simp) rfl, h.sub x (by simp), rfl⟩
theorem Stg.add {x : Itm} {T0 Q0 T Q : List Itm} (h : Stg U n x T0 Q0 T Q) {y : Itm} (hy : y.In U n) : Stg U n x T0 Q0 (cP_ y T) (ge_ y T Q) := by
  by_cases hm : y ∈ T
  · have e1 : cP_ y T = T := by unfold cP_; rw [if_pos hm]
    have e2 : ge_ y T Q = Q := by unfold ge_; rw [if_pos hm]
    rw [e1, e2]; exact h
  · have e1 : cP_ y T = T ++ [y] := by unfold cP_; rw [if_neg hm]
    have e2 : ge_ y T Q = Q ++ [y] := by unfold ge_; rw [if_neg hm]
    rw [e1, e2]
    have hl := h.len
    refine ⟨e1 ▸ jE_ h.nd, ?_, fun z hz => ?_, fun z hz => ?_, fun z hz => by simp [h.old z hz], fun z hz => ?_, fun z hz => by simp [h.q0 z hz], fun hz => ?_, by simp [h.xT], by simp only [List.length_append, List.length_cons, List.length_nil]; omega⟩
    · rw [List.nodup_append]; exact ⟨h.qnd, by simp, fun a ha b hb e => by simp at hb; subst hb; subst e; exact hm (h.sub _ ha)⟩
    · rcases List.mem_append.1 hz with hz | hz
      · simp [h.sub z hz]
      · simp at hz; simp [hz]
    · rcases List.mem_append.1 hz with hz | hz
      · exact h.bd z hz
      · simp at hz; rw [hz]; exact hy
    · rcases List.mem_append.1 hz with hz | hz
      · exact (h.new z hz).imp id fun q => by simp [q]
      · simp at hz; exact .inr (by simp [hz])
    · rcases List.mem_append.1 hz with hz | hz
      · exact h.nx hz
      · simp at hz; exact hm (hz ▸ h.xT)
def Pr1 (n : Nat) (x : Itm) (T0 : List Itm) (L : List Rul) (T : List Itm) : Prop := ∀ y ∈ L, ∀ e, x.j ≤ e → e ≤ n → (⟨y.s, x.j, e⟩ : Itm) ∈ T0 → (⟨y.r, x.i, e⟩ : Itm) ∈ T
def Pr2 (x : Itm) (T0 : List Itm) (L : List Rul) (T : List Itm) : Prop := ∀ y ∈ L, ∀ b, b ≤ x.i → (⟨y.f, b, x.i⟩ : Itm) ∈ T0 → (⟨y.r, b, x.j⟩ : Itm) ∈ T
theorem Pr1.mono {x : Itm} {T0 T T' : List Itm} {L : List Rul} (h : Pr1 n x T0 L T) (hT : ∀ y ∈ T, y ∈ T') : Pr1 n x T0 L T' := fun y hy e h1 h2 h3 => hT _ (h y hy e h1 h2 h3)
theorem Pr2.mono {x : Itm} {T0 T T' : List Itm} {L : List Rul} (h : Pr2 x T0 L T) (hT : ∀ y ∈ T, y ∈ T') : Pr2 x T0 L T' := fun y hy b h1 h3 => hT _ (h y hy b h1 h3)
theorem ec_ {α : Type} {L : List α} {i : Nat} {x y : α} (hx : L[i]? = some x) (h : y ∈ L.take (i + 1)) : y ∈ L.take i ∨ y = x := by
  rw [List.take_add_one, hx, Option.toList_some, List.mem_append, List.mem_singleton] at h
  exact h
theorem Pr1.step {x : Itm} {T0 T T' : List Itm} {L : List Rul} {k : Nat} {y : Rul} (h : Pr1 n x T0 (L.take k) T) (hy : L[k]? = some y) (hT : ∀ z ∈ T, z ∈ T') (hn : ∀ e, x.j ≤ e → e ≤ n → (⟨y.s, x.j, e⟩ : Itm) ∈ T0 → (⟨y.r, x.i, e⟩ : Itm) ∈ T') : Pr1 n x T0 (L.take (k + 1)) T' := fun z hz e h1 h2 h3 => by
  rcases ec_ hy hz with hz | rfl
  · exact hT _ (h z hz e h1 h2 h3)
  · exact hn e h1 h2 h3
theorem Pr2.step {x : Itm} {T0 T T' : List Itm} {L : List Rul} {k : Nat} {y : Rul} (h : Pr2 x T0 (L.take k) T) (hy : L[k]? = some y) (hT : ∀ z ∈ T, z ∈ T') (hn : ∀ b, b ≤ x.i → (⟨y.f, b, x.i⟩ : Itm) ∈ T0 → (⟨y.r, b, x.j⟩ : Itm) ∈ T') : Pr2 x T0 (L.take (k + 1)) T' := fun z hz b h1 h3 => by
  rcases ec_ hy hz with hz | rfl
  · exact hT _ (h z hz b h1 h3)
  · exact hn b h1 h3
theorem Stg.done {x : Itm} {T0 Q0 T Q : List Itm} {L1 L2 : List Rul} (hr : Rec R U n T0 (Q0 ++ [x])) (h : Stg U n x T0 Q0 T Q) (h1 : ∀ y ∈ R, y.f = x.r → y ∈ L1) (h2 : ∀ y ∈ R, y.s = x.r → y ∈ L2) (p1 : Pr1 n x T0 L1 T) (p2 : Pr2 x T0 L2 T) : Rec R U n T Q := by
  refine ⟨h.nd, h.qnd, h.sub, h.bd, fun p hp q hq np nq e y hy e1 e2 => ?_⟩
  have hp0 := (h.new p hp).resolve_right np
  have hq0 := (h.new q hq).resolve_right nq
  have bp := h.bd p hp
  have bq := h.bd q hq
  by_cases hpx : p = x
  · subst hpx
    exact p1 y (h1 y hy e1) q.j (by rw [e]; exact bq.2.1) bq.2.2 (by rw [e2, e]; exact hq0)
  · by_cases hqx : q = x
    · subst hqx
      exact p2 y (h2 y hy e2) p.i (by rw [← e]; exact bp.2.1) (by rw [e1, ← e]; exact hp0)
    · refine h.old _ (hr.cl p hp0 q hq0 (fun hm => ?_) (fun hm => ?_) e y hy e1 e2)
      · rcases List.mem_append.1 hm with hm | hm
        · exact np (h.q0 p hm)
        · simp at hm; exact hpx hm
      · rcases List.mem_append.1 hm with hm | hm
        · exact nq (h.q0 q hm)
        · simp at hm; exact hqx hm
def muI (B : Nat) (T Q : List Itm) : Nat := 2 * (B - T.length) + Q.length
theorem Stg.mu {x : Itm} {T0 Q0 T Q : List Itm} {B : Nat} (h : Stg U n x T0 Q0 T Q) (n0 : T0.Nodup) (hB : T.length ≤ B) : muI B T Q < muI B T0 (Q0 ++ [x]) := by
  have hl := h.len
  have := n0.length_le_of_subset h.old
  unfold muI
  simp only [List.length_append, List.length_cons, List.length_nil]
  omega
theorem Rec.init {T : List Itm} (nd : T.Nodup) (bd : ∀ y ∈ T, y.In U n) : Rec R U n T T := ⟨nd, nd, fun _ h => h, bd, fun p hp _ _ np => absurd hp np⟩
end
theorem kr_ {R : List Rul} {U : List Str} {x : Ax} {T : List Itm} (hn : 2 ≤ x.roles.length) (h : Rec R U x.roles.length T []) (hR : ∀ i, 1 ≤ i → i < x.roles.length → x.rul i ∈ R) (hw : ∀ i r, x.roles[i]? = some r → (⟨r, i, i + 1⟩ : Itm) ∈ T) : (⟨x.role, 0, x.roles.length⟩ : Itm) ∈ T := by
  have key : ∀ k, k + 1 < x.roles.length → (⟨Lib.join (x.roles.take (k + 1)) [46], 0, k + 1⟩ : Itm) ∈ T := by
    intro k
    induction k with
    | zero =>
      intro hk
      have h0 := List.getElem?_eq_getElem (show 0 < x.roles.length by omega)
      have := hw 0 _ h0
      rw [List.take_add_one, h0]
      simpa [Lib.join_one] using this
    | succ k ih =>
      intro hk
      have h0 := List.getElem?_eq_getElem (show k + 1 < x.roles.length by omega)
      have h1 := ih (by omega)
      have h2 := hw (k + 1) _ h0
      have := h.cl _ h1 _ h2 (by simp) (by simp) rfl _ (hR (k + 1) (by omega) (by omega)) rfl (by simp [Ax.rul, List.getD, h0])
      simp only [Ax.rul] at this
      rw [if_neg (by omega)] at this
      exact this
  obtain ⟨m, hm⟩ : ∃ m, x.roles.length = m + 2 := ⟨x.roles.length - 2, by omega⟩
  have h0 := List.getElem?_eq_getElem (show m + 1 < x.roles.length by omega)
  have := h.cl _ (key m (by omega)) _ (hw (m + 1) _ h0) (by simp) (by simp) rfl _ (hR (m + 1) (by omega) (by omega)) rfl (by simp [Ax.rul, List.getD, h0])
  simp only [Ax.rul] at this
  rw [if_pos (by omega)] at this
  rw [hm]; exact this
end Go.Vs
namespace Go.Sx
open Go Go.Vs
def ez_ (T : List Itm) (r : Str) : List Value := (List.range 4225).map fun k => .bool (decide ((⟨r, k / 65, k % 65⟩ : Itm) ∈ T))
theorem em_ (T : List Itm) (r : Str) : (ez_ T r).length = 4225 := by simp [ez_]
theorem gh_ (T : List Itm) (r : Str) {k : Nat} (hk : k < 4225) : (ez_ T r)[k]? = some (.bool (decide ((⟨r, k / 65, k % 65⟩ : Itm) ∈ T))) := by
  unfold ez_
  rw [List.getElem?_map, List.getElem?_range hk]
  rfl
theorem kB_ {i j : Nat} (hj : j ≤ 64) : (i * 65 + j) / 65 = i ∧ (i * 65 + j) % 65 = j := by omega
theorem hX_ (T : List Itm) (r : Str) {i j : Nat} (hi : i ≤ 64) (hj : j ≤ 64) : (ez_ T r)[i * 65 + j]? = some (.bool (decide ((⟨r, i, j⟩ : Itm) ∈ T))) := by
  obtain ⟨e1, e2⟩ := kB_ (i := i) hj
  rw [gh_ T r (by omega), e1, e2]
theorem gs_ {T : List Itm} {r q : Str} {i j : Nat} (h : q ≠ r) : ez_ (cP_ ⟨r, i, j⟩ T) q = ez_ T q := by
  unfold ez_
  apply List.map_congr_left
  intro k _
  congr 1
  apply decide_eq_decide.2
  rw [aB_]
  exact ⟨fun q => q.elim id fun e => absurd (congrArg Itm.r e) h, .inl⟩
theorem kC_ (T : List Itm) (r : Str) {i j : Nat} (hi : i ≤ 64) (hj : j ≤ 64) : (ez_ T r).set (i * 65 + j) (.bool true) = ez_ (cP_ ⟨r, i, j⟩ T) r := by
  apply List.ext_getElem?
  intro k
  rw [List.getElem?_set, em_]
  obtain ⟨e1, e2⟩ := kB_ (i := i) hj
  by_cases hk : i * 65 + j = k
  · subst hk
    rw [if_pos rfl, if_pos (by omega), hX_ _ _ hi hj, decide_eq_true (aB_.2 (.inr rfl))]
  · rw [if_neg hk]
    by_cases hl : k < 4225
    · rw [gh_ _ _ hl, gh_ _ _ hl]
      congr 2
      apply decide_eq_decide.2
      rw [aB_]
      refine ⟨.inl, fun q => q.elim id fun e => ?_⟩
      simp only [Itm.mk.injEq, true_and] at e
      omega
    · rw [List.getElem?_eq_none (by rw [em_]; omega), List.getElem?_eq_none (by rw [em_]; omega)]
theorem jN_ {T : List Itm} {r : Str} (h : ∀ x ∈ T, x.r ≠ r) : ez_ T r = List.replicate 4225 (.bool false) := by
  apply List.ext_getElem?
  intro k
  by_cases hl : k < 4225
  · rw [gh_ _ _ hl, decide_eq_false fun q => h _ q rfl, List.getElem?_replicate, if_pos hl]
  · rw [List.getElem?_eq_none (by rw [em_]; omega), List.getElem?_eq_none (by rw [List.length_replicate]; omega)]
def cT_ (ks : List (Str × Nat)) (k : Str) : Option Nat := (ks.find? fun p => decide (p.1 = k)).map (·.2)
def gn_ (o : Option Nat) : Value := .pointer (o.map fun b => ⟨b, 0, none⟩)
def fZ_ (tt : TypeId) (T : List Itm) (p : Str × Nat) : Nat × Obj := (p.2, .cells (ez_ T p.1).toArray tt (0, 0))
structure TabE (ks : List (Str × Nat)) (T : List Itm) (es : Array MapEntry) : Prop where
  keys : es.toList.map (·.key) = (ks.map (·.1)).map str
  vals : es.toList.map (·.val) = ks.map fun p => gn_ (some p.2)
  nd : (ks.map (·.1)).Nodup
  all : ∀ x ∈ T, x.r ∈ ks.map (·.1)
def dA_ (tt mb : Nat) (ks : List (Str × Nat)) (T : List Itm) (H : Hp) : Prop := ∃ es c, H = (mb, .map es c) :: ks.map (fZ_ tt T) ∧ TabE ks T es
theorem TabE.nil : TabE [] [] #[] := ⟨rfl, rfl, List.nodup_nil, by simp⟩
theorem dA_.nil (tt mb c : Nat) : dA_ tt mb [] [] [(mb, .map #[] c)] := ⟨#[], c, rfl, TabE.nil⟩
theorem ha_ {ks : List (Str × Nat)} {k : Str} {b : Nat} (h : cT_ ks k = some b) : (k, b) ∈ ks := by
  unfold cT_ at h
  rw [Option.map_eq_some_iff] at h
  obtain ⟨p, h1, rfl⟩ := h
  have h2 := List.find?_some h1
  have h3 := List.mem_of_find?_eq_some h1
  simp only [decide_eq_true_eq] at h2
  subst h2
  exact h3
theorem eX_ {ks : List (Str × Nat)} {k : Str} (h : cT_ ks k = none) : k ∉ ks.map (·.1) := by
  unfold cT_ at h
  rw [Option.map_eq_none_iff, List.find?_eq_none] at h
  intro hm
  obtain ⟨p, hp, rfl⟩ := List.mem_map.1 hm
  exact h p hp (by simp)
theorem hV_ {ks : List (Str × Nat)} {k q : Str} {b c : Nat} (h : cT_ ks k = some b) : cT_ (ks ++ [(q, c)]) k = some b := by
  unfold cT_ at h ⊢
  rw [List.find?_append]
  rw [Option.map_eq_some_iff] at h
  obtain ⟨p, h1, h2⟩ := h
  rw [h1]
  simp [h2]
theorem kx_ {ks : List (Str × Nat)} {k : Str} {b : Nat} (h : cT_ ks k = none) : cT_ (ks ++ [(k, b)]) k = some b := by
  unfold cT_ at h ⊢
  rw [Option.map_eq_none_iff] at h
  rw [List.find?_append, h]
  simp
section
variable {P : Program} {kt : TypeId} {tt mb : Nat} {ks : List (Str × Nat)} {T : List Itm} {es : Array MapEntry} {H : Hp}
theorem TabE.no (hK : KeyT P kt str) (h : TabE ks T es) {k : Str} (hk : cT_ ks k = none) : cH_ P kt (str k) es.toList none := hK.nf k es.toList _ h.keys (eX_ hk)
theorem TabE.yes (hK : KeyT P kt str) (h : TabE ks T es) {k : Str} {b : Nat} (hk : cT_ ks k = some b) : ∃ i, cH_ P kt (str k) es.toList (some (i, gn_ (some b))) := by
  obtain ⟨i, hi⟩ := List.getElem?_of_mem (ha_ hk)
  have hv := congrArg (fun l => l[i]?) h.vals
  simp only [List.getElem?_map, hi, Option.map_some] at hv
  cases hx : es.toList[i]? with
  | none => rw [hx] at hv; simp at hv
  | some x =>
    rw [hx] at hv
    simp only [Option.map_some, Option.some.injEq] at hv
    refine ⟨i, ?_⟩
    have := hK.sf k es.toList _ i x h.keys h.nd (by rw [List.getElem?_map, hi]; rfl) hx
    rwa [hv] at this
theorem dA_.at (h : dA_ tt mb ks T H) {k : Str} {b : Nat} (hk : cT_ ks k = some b) : ∃ Hr, H.Perm ((b, .cells (ez_ T k).toArray tt (0, 0)) :: Hr) ∧
    ∀ i j, i ≤ 64 → j ≤ 64 → ∃ H', dA_ tt mb ks (cP_ ⟨k, i, j⟩ T) H' ∧ ((b, Obj.cells ((ez_ T k).set (i * 65 + j) (.bool true)).toArray tt (0, 0)) :: Hr).Perm H' := by
  obtain ⟨es, c, rfl, hE⟩ := h
  have hm := ha_ hk
  obtain ⟨l1, l2, rfl⟩ := List.append_of_mem hm
  refine ⟨(mb, .map es c) :: (l1 ++ l2).map (fZ_ tt T), ?_, fun i j hi hj => ?_⟩
  · rw [List.map_append, List.map_cons, List.map_append]
    exact (List.Perm.cons _ List.perm_middle).trans (.swap _ _ _)
  · refine ⟨(mb, .map es c) :: (l1 ++ (k, b) :: l2).map (fZ_ tt (cP_ ⟨k, i, j⟩ T)), ⟨es, c, rfl, hE.keys, hE.vals, hE.nd, fun x hx => ?_⟩, ?_⟩
    · rcases aB_.1 hx with hx | rfl
      · exact hE.all x hx
      · simp
    · have hnd := hE.nd
      rw [List.map_append, List.map_cons, List.nodup_append, List.nodup_cons] at hnd
      have e1 : l1.map (fZ_ tt (cP_ ⟨k, i, j⟩ T)) = l1.map (fZ_ tt T) := List.map_congr_left fun p hp => by
        unfold fZ_
        rw [gs_ fun e => hnd.2.2 p.1 (List.mem_map_of_mem hp) k (by simp) e]
      have e2 : l2.map (fZ_ tt (cP_ ⟨k, i, j⟩ T)) = l2.map (fZ_ tt T) := List.map_congr_left fun p hp => by
        unfold fZ_
        rw [gs_ fun e => hnd.2.1.1 (List.mem_map.2 ⟨p, hp, e⟩)]
      rw [kC_ T k hi hj, List.map_append, List.map_append, List.map_cons, e1, e2]
      exact ((List.Perm.cons _ List.perm_middle).trans (.swap _ _ _)).symm
theorem TabE.push (h : TabE ks T es) {k : Str} (hk : cT_ ks k = none) (b c : Nat) : TabE (ks ++ [(k, b)]) T (es.push ⟨str k, gn_ (some b), c⟩) := by
  refine ⟨by simp [h.keys], by simp [h.vals], ?_, fun x hx => by simp only [List.map_append, List.mem_append]; exact .inl (h.all x hx)⟩
  rw [List.map_append, List.nodup_append]
  exact ⟨h.nd, by simp, fun a ha q hq e => by simp at hq; subst hq; subst e; exact eX_ hk ha⟩
theorem TabE.zero (h : TabE ks T es) {k : Str} (hk : cT_ ks k = none) : ez_ T k = List.replicate 4225 (.bool false) := jN_ fun x hx e => eX_ hk (e ▸ h.all x hx)
end
section ops
variable {P : Program} {N : Nf} {v0 : Vw} {H0 : Hp} {R : Exit → Act → World → Prop} {K : List Kt} {fr : Fr} {H F : Hp} {Γ : List Fct}
variable {ops : Array Oper} {l : List Oper} {d : Nat} {ty : TypeId} {ps : String} {af : Array Edge}
variable {tt mb : Nat} {ks : List (Str × Nat)} {T : List Itm} {Hx : Hp}
theorem de_ {t kt et : TypeId} {x y : Operand} {k : Str} (hK : KeyT P kt str) (hu : ∀ w, (underlying t).run P w = .ok (.map kt et) w) (hz : ∀ w, (zeroValue et).run P w = .ok (.pointer none) w) (hT : dA_ tt mb ks T Hx) (hx : Fr.ev fr x = some (.map (some mb))) (hy : Fr.ev fr y = some (str k)) (hp : H.Perm (Hx ++ F)) :
    Yld P N fr H Γ (.lookup t x y false) ty (gn_ (cT_ ks k)) := by
  obtain ⟨es, c, rfl, hE⟩ := hT
  have hm : ∀ v : Vw, v.sat H → ap_ Γ v → v.w.heap[mb]? = some (.map es c) := fun v h _ => (h.own (mb, .map es c) (hp.mem_iff.2 (by simp))).1
  cases hk : cT_ ks k with
  | none => exact dl_ hu hz hx hy hm (hK.ok k) (hE.no hK hk)
  | some b =>
    obtain ⟨i, hf⟩ := hE.yes hK hk
    exact dR_ hu hx hy hm (hK.ok k) hf
theorem ei_ {t : TypeId} {x : Operand} {k : Str} {b i j : Nat} (ha : ∀ w, (isAgg t).run P w = .ok false w) (hT : dA_ tt mb ks T Hx) (hk : cT_ ks k = some b) (hi : i ≤ 64) (hj : j ≤ 64) (hx : Fr.ev fr x = some (.pointer (some ⟨b, i * 65 + j, none⟩))) (hp : H.Perm (Hx ++ F)) :
    Yld P N fr H Γ (.load t x) ty (.bool (decide ((⟨k, i, j⟩ : Itm) ∈ T))) := by
  obtain ⟨Hr, h1, _⟩ := hT.at hk
  refine eh_ hx fun v h2 _ => bZ_ ha ?_
  have hb := (h2.own _ (hp.mem_iff.2 (List.mem_append_left _ (h1.mem_iff.2 List.mem_cons_self)))).1
  have hg := hX_ T k hi hj
  generalize ez_ T k = cs at hb hg
  simp only [World.cell?, hb, Nat.zero_add, List.getElem?_toArray]
  simpa using hg
theorem jz_ (w : World) (t e : TypeId) (o : Option Addr) (hu : P.underlying t = some (.pointer e)) : (Op.equal t (.pointer o) (.pointer none)).run P w = .ok o.isNone w := by
  have key : ∀ d, (Op.equalIn (d + 1) t (.pointer o) (.pointer none)).run P w = .ok o.isNone w := fun d => by cases o <;> simp [Op.equalIn, run_underlying hu]
  exact key 9999
theorem kp_ {t t' e : TypeId} {x y : Operand} {o : Option Nat} (hu : P.underlying t = some (.pointer e)) (hx : Fr.ev fr x = some (gn_ o)) (hy : Fr.ev fr y = some (.pointer none)) : Yld P N fr H Γ (.binOp .eql t x y t') ty (.bool (decide (o = none))) :=
  fun a v h1 _ _ _ _ _ => by
    have he : decide (o = none) = (o.map fun b => (⟨b, 0, none⟩ : Addr)).isNone := by cases o <;> simp
    rw [he]
    have := jz_ v.w t e (o.map fun b => (⟨b, 0, none⟩ : Addr)) hu
    simp [execOp, h1.ev hx, h1.ev hy, eqGuard, binOp, gn_, this]
theorem fO_ {t t' e : TypeId} {x y : Operand} {o : Option Nat} (hu : P.underlying t = some (.pointer e)) (hx : Fr.ev fr x = some (gn_ o)) (hy : Fr.ev fr y = some (.pointer none)) : Yld P N fr H Γ (.binOp .neq t x y t') ty (.bool (!decide (o = none))) :=
  fun a v h1 _ _ _ _ _ => by
    have he : decide (o = none) = (o.map fun b => (⟨b, 0, none⟩ : Addr)).isNone := by cases o <;> simp
    rw [he]
    have := jz_ v.w t e (o.map fun b => (⟨b, 0, none⟩ : Addr)) hu
    simp [execOp, h1.ev hx, h1.ev hy, eqGuard, binOp, gn_, this]
theorem dP_ {x : Operand} {o : Option Nat} {b : Nat} (hb : o = some b) (hx : Fr.ev fr x = some (gn_ o)) : Yld P N fr H Γ (.nilCheck x) ty (.pointer (some ⟨b, 0, none⟩)) := by
  subst hb
  exact bv_ hx
theorem dO_ {t e : TypeId} {x y : Operand} {b i : Nat} (hu : ∀ w, (underlying t).run P w = .ok (.array 65 e) w) (hs : ∀ w, (sizeOf e).run P w = .ok 65 w) (hx : Fr.ev fr x = some (.pointer (some ⟨b, 0, none⟩))) (hy : Fr.ev fr y = some (.int .i64 (i : Int))) (hi : i ≤ 64) :
    Yld P N fr H Γ (.indexAddr t x y) ty (.pointer (some ⟨b, i * 65, none⟩)) := by
  have := dt_ (P := P) (N := N) (fr := fr) (H := H) (Γ := Γ) (ty := ty) hu hs hx hy (by omega) (by omega)
  rwa [Nat.zero_add, Int.toNat_natCast] at this
theorem ds_ {t e : TypeId} {x y : Operand} {b o j : Nat} (hu : ∀ w, (underlying t).run P w = .ok (.array 65 e) w) (hs : ∀ w, (sizeOf e).run P w = .ok 1 w) (hx : Fr.ev fr x = some (.pointer (some ⟨b, o, none⟩))) (hy : Fr.ev fr y = some (.int .i64 (j : Int))) (hj : j ≤ 64) :
    Yld P N fr H Γ (.indexAddr t x y) ty (.pointer (some ⟨b, o + j, none⟩)) := by
  have := dt_ (P := P) (N := N) (fr := fr) (H := H) (Γ := Γ) (ty := ty) hu hs hx hy (by omega) (by omega)
  rwa [Nat.mul_one, Int.toNat_natCast] at this
theorem kQ_ {o : Op} {t kt et : TypeId} {x y z : Operand} {k : Str} {b : Nat} (hK : KeyT P kt str) (ho : o = .insert t x y z ∨ o = .mapUpdate t x y z) (hu : ∀ w, (underlying t).run P w = .ok (.map kt et) w) (hT : dA_ tt mb ks T Hx) (hk : cT_ ks k = none)
    (hx : Fr.ev fr x = some (.map (some mb))) (hy : Fr.ev fr y = some (str k)) (hz : Fr.ev fr z = some (.pointer (some ⟨b, 0, none⟩))) (hp : H.Perm ((b, .cells (List.replicate 4225 (.bool false)).toArray tt (0, 0)) :: (Hx ++ F)))
    (hkk : ∀ H', dA_ tt mb (ks ++ [(k, b)]) T H' → Ops P R N v0 H0 ops l K fr (H' ++ F) Γ) : Ops P R N v0 H0 ops (⟨none, o, ty, ps, af, none⟩ :: l) K fr H Γ := by
  obtain ⟨es, c, rfl, hE⟩ := hT
  have e0 : (b, Obj.cells (List.replicate 4225 (.bool false)).toArray tt (0, 0)) = fZ_ tt T (k, b) := by unfold fZ_; rw [hE.zero hk]
  have hp2 : H.Perm ((mb, .map es c) :: ((ks ++ [(k, b)]).map (fZ_ tt T) ++ F)) := by
    refine hp.trans ?_
    rw [e0, List.cons_append, List.map_append]
    refine (List.Perm.swap _ _ _).trans (.cons _ ?_)
    rw [List.append_assoc]
    exact List.perm_middle.symm
  refine Y_ hp2 (bg_ 0 ho hu hx hy hz rfl (hK.ok k) (hE.no hK hk) ?_)
  simp only [List.set_cons_zero]
  exact hkk _ ⟨_, _, rfl, hE.push hk b c⟩
theorem io_ {t : TypeId} {x y : Operand} {k : Str} {b i j : Nat} (hs : ∀ w, (sizeOf t).run P w = .ok 1 w) (hT : dA_ tt mb ks T Hx) (hk : cT_ ks k = some b) (hi : i ≤ 64) (hj : j ≤ 64)
    (hx : Fr.ev fr x = some (.pointer (some ⟨b, i * 65 + j, none⟩))) (hy : Fr.ev fr y = some (.bool true)) (hp : H.Perm (Hx ++ F))
    (hkk : ∀ H', dA_ tt mb ks (cP_ ⟨k, i, j⟩ T) H' → Ops P R N v0 H0 ops l K fr (H' ++ F) Γ) : Ops P R N v0 H0 ops (⟨none, .store t x y, ty, ps, af, none⟩ :: l) K fr H Γ := by
  obtain ⟨Hr, h1, h2⟩ := hT.at hk
  obtain ⟨H', h3, h4⟩ := h2 i j hi hj
  refine Y_ (hp.trans (h1.append_right F)) (ah_ 0 hs hx hy rfl rfl (by simp only [List.size_toArray, em_, Nat.ble_eq]; omega) rfl ?_)
  have e : (ez_ T k).take (i * 65 + j) ++ [Value.bool true] ++ (ez_ T k).drop (i * 65 + j + 1) = (ez_ T k).set (i * 65 + j) (.bool true) := by
    rw [List.set_eq_take_append_cons_drop, if_pos (by rw [em_]; omega)]
    simp
  simp only [List.set_cons_zero]
  have e2 : (Value.bool true).cells.toList = [Value.bool true] := rfl
  rw [e2, e]
  exact Y_ (h4.append_right F) (hkk H' h3)
end ops
end Go.Sx
namespace Go.Sx
open Go Go.Vs
structure IntE {K : Type} (kv : K → Value) (es : Array MapEntry) (ks : List K) (vs : List Int) : Prop where
  keys : es.toList.map (·.key) = ks.map kv
  vals : es.toList.map (·.val) = vs.map fun n => Value.int .i64 n
  nd : ks.Nodup
section
variable {P : Program} {K : Type} [DecidableEq K] {kv : K → Value} {kt : TypeId} {es : Array MapEntry} {ks : List K} {vs : List Int}
theorem IntE.nil : IntE kv #[] ([] : List K) [] := ⟨rfl, rfl, List.nodup_nil⟩
theorem IntE.len (h : IntE kv es ks vs) : vs.length = ks.length := by
  have h1 := congrArg List.length h.keys
  have h2 := congrArg List.length h.vals
  simp only [List.length_map] at h1 h2
  omega
theorem IntE.yes (hK : KeyT P kt kv) (h : IntE kv es ks vs) {k : K} (hk : k ∈ ks) : ∃ (i : Nat) (n : Int), ks[i]? = some k ∧ vs[i]? = some n ∧ cH_ P kt (kv k) es.toList (some (i, .int .i64 n)) := by
  obtain ⟨i, hi⟩ := List.getElem?_of_mem hk
  have hlt : i < es.toList.length := by
    have := (List.getElem?_eq_some_iff.1 hi).1
    have e := congrArg List.length h.keys
    simp only [List.length_map] at e
    omega
  have hx := List.getElem?_eq_getElem hlt
  have hv := congrArg (fun l => l[i]?) h.vals
  simp only [List.getElem?_map, hx, Option.map_some] at hv
  cases hn : vs[i]? with
  | none => rw [hn] at hv; simp at hv
  | some n =>
    rw [hn] at hv
    simp only [Option.map_some, Option.some.injEq] at hv
    refine ⟨i, n, hi, hn, ?_⟩
    have := hK.sf k es.toList ks i _ h.keys h.nd hi hx
    rwa [hv] at this
theorem IntE.no (hK : KeyT P kt kv) (h : IntE kv es ks vs) {k : K} (hk : k ∉ ks) : cH_ P kt (kv k) es.toList none := hK.nf k es.toList ks h.keys hk
theorem IntE.push (h : IntE kv es ks vs) {k : K} (hk : k ∉ ks) (n : Int) (c : Nat) : IntE kv (es.push ⟨kv k, .int .i64 n, c⟩) (ks ++ [k]) (vs ++ [n]) := by
  refine ⟨by simp [h.keys], by simp [h.vals], ?_⟩
  rw [List.nodup_append]; exact ⟨h.nd, by simp, fun a ha b hb e => by simp at hb; subst hb; subst e; exact hk ha⟩
end
section ops
variable {P : Program} {N : Nf} {v0 : Vw} {H0 : Hp} {R : Exit → Act → World → Prop} {Kk : List Kt} {fr : Fr} {H : Hp} {Γ : List Fct}
variable {ops : Array Oper} {lo : List Oper} {d : Nat} {ty : TypeId} {ps : String} {af : Array Edge}
variable {K : Type} [DecidableEq K] {kv : K → Value}
end ops
end Go.Sx
namespace Go.Proofs.YtoafjmalfclpoaaGreatDoor
open Go Go.Sx Go.Proofs
attribute [local irreducible] Code.wp wpList wpAnyH
open Go.Vs
section
variable {P : Program} {N : Nf} {v0 : Vw} {H0 : Hp} {fr : Fr}
theorem iu_ {k : Act → World → Prop} {F : Hp} : ∀ (B : Hp) {H : Hp} {Γ : List Fct}, H.Perm (B ++ F) → Ok N v0 H0 k fr F (B.reverse.map (fun p => dp_ p.1 p.2) ++ Γ) → Ok N v0 H0 k fr H Γ
  | [], H, Γ, hH, h => Y_ hH h
  | (b, o) :: B, H, Γ, hH, h => by
    refine gj_ (dp_ b o) (F := B ++ F) hH (fun _ h1 h2 _ => ⟨h1, h2⟩) ?_
    refine iu_ B (.refl _) ?_
    simpa using h
theorem gO_ : ∀ (B : Hp) {v : Vw}, ap_ (B.map fun p => dp_ p.1 p.2) v → ∀ p ∈ B, v.im p.1 ∧ v.w.heap[p.1]? = some p.2
  | [], _, _, _, h => by simp at h
  | q :: B, v, h, p, hp => by
    rcases List.mem_cons.1 hp with rfl | hp
    · exact h.1
    · exact gO_ B h.2 p hp
theorem it_ {F H : Hp} {Γ : List Fct} {K D : Type} [DecidableEq K] {k : Act → World → Prop} {kv : K → Value} {cells : D → List Value} {kt e : TypeId} {sz mb : Nat} {l : List (K × D)} {Hm : Hp} (hK : KeyT P kt kv) (hm : eg_ kv cells e sz l mb Hm) (hH : H.Perm (Hm ++ F))
    (h : ∀ adr, Ok N v0 H0 k fr F (mlF P kt kv cells mb l adr :: Γ)) : Ok N v0 H0 k fr H Γ := by
  obtain ⟨adr, ha⟩ := hm.lent hK
  refine iu_ Hm hH (iw_ (fun v _ hv => ?_) (h adr))
  rw [dK_] at hv
  refine ⟨ha v fun p hp => ?_, hv.2⟩
  have := hv.1
  exact gO_ Hm.reverse (by rw [List.map_reverse] at *; exact this) p (List.mem_reverse.2 hp)
end
def Rul.eqb (p q : Rul) : Bool := (p.f == q.f) && ((p.s == q.s) && ((p.r == q.r) && true))
theorem Rul.eqb_eq (p q : Rul) : Rul.eqb p q = decide (p = q) := by
  cases p; cases q
  rw [Bool.eq_iff_iff]
  simp [Rul.eqb]
theorem Rul.cells_one (x : Rul) : x.cells.all Value.oneCell' = true := rfl
theorem Itm.cells_one (x : Itm) : x.cells.all Value.oneCell' = true := rfl
theorem kz_ (s : Str) : (cn_ s).all Value.oneCell' = true := rfl
theorem eqRul (p q : Rul) (w : World) : (Op.equalIn 10000 150 (Rul.val p) (Rul.val q)).run Tryz.prog w = .ok (decide (p = q)) w := by
  have h := run_equalIn_struct (P := Tryz.prog) w 9999 150 (Rul.cells p).toArray (Rul.cells q).toArray (by simp only [Program.fieldsOf, Tryz.underlying150]) Tryz.stoodInHeld150
  refine h.trans ?_
  rw [← Rul.eqb_eq]
  simp only [Program.fieldsOf, Tryz.underlying150]
  exact bP_ rfl E_ rfl rfl (eqS be_ w) (bP_ rfl E_ rfl rfl (eqS be_ w) (bP_ rfl E_ rfl rfl (eqS be_ w) (hN_ w)))
theorem okRul (p : Rul) : fY_ Tryz.prog 150 (Rul.val p) := fun e w => by
  have hi : ∀ (n : Int) (w : World), (Instr.checkKey e (9998 + 1) 3 (.int .i64 n)).run Tryz.prog w = .ok () w := fun n w => MapKept.run_checkKey (d := .int .i64) Q_ (by simp [MapKept.IsKey]) e 9998
  have hs : ∀ (n : Str) (w : World), (Instr.checkKey e (9998 + 1) 9 (str n)).run Tryz.prog w = .ok () w := fun n w => MapKept.run_checkKey (d := .string) be_ (by simp [MapKept.IsKey, str]) e 9998
  refine ckF (n := 9999) Tryz.underlying150 fun f hf => ?_
  simp only [List.mem_cons, List.not_mem_nil, or_false] at hf
  rcases hf with rfl | rfl | rfl
  · exact ⟨rfl, E_, _, rfl, hs _⟩
  · exact ⟨rfl, E_, _, rfl, hs _⟩
  · exact ⟨rfl, E_, _, rfl, hs _⟩
theorem hE_ : KeyT Tryz.prog 150 Rul.val := iF_ (K := Rul) Tryz.underlying150 okRul (fun p q w => eqRul p q w) fun k => kF_ (l := Rul.cells k) fun v hv => by
  simp only [Rul.cells, List.mem_cons, List.not_mem_nil, or_false] at hv
  rcases hv with rfl | rfl | rfl
  · exact gu_ _ _
  · exact gu_ _ _
  · exact gu_ _ _
theorem cq_ : KeyT Tryz.prog 9 str := kY_ be_
theorem db_ : Elt Tryz.prog 148 150 3 48 := hn_ Tryz.underlying148 (z := .agg #[str [], str [], str []]) (by kernel_rfl) rfl (by decide)
theorem jA_ : Elt Tryz.prog 142 146 3 32 := hn_ Tryz.underlying142 (z := .agg #[str [], .int .i64 0, .int .i64 0]) (by kernel_rfl) rfl (by decide)
theorem lI_ : Elt Tryz.prog 39 9 1 16 := hn_ Tryz.underlying39 (z := .string ⟨#[]⟩) (by kernel_rfl) rfl (by decide)
theorem hs_ : gW_ Tryz.prog 150 [(0, 1), (1, 1), (2, 1)] [str [], str [], str []] := ⟨_, aP_, ax_, fun w => by simp [z_]⟩
theorem jn_ : gW_ Tryz.prog 146 [(0, 1), (1, 1), (2, 1)] [str [], .int .i64 0, .int .i64 0] := ⟨_, Tryz.zeroValue146, bI_, fun w => by simp [L_, z_]⟩
theorem lu_ : gW_ Tryz.prog 140 [(0, 1), (1, 1), (2, 1), (3, 1)] [.map none, .map none, .map none, .slice none 0 0] := ⟨_, Tryz.zeroValue140, aC_, fun w => by simp [bp_, Tryz.sizeOf137, bD_]⟩
theorem fH_ (xs : List Str) (sep : Str) (ad : Option Addr) (cap : Nat) (hn : xs ≠ []) (hcap : xs.length ≤ cap) (hN : xs.length ≤ 1000000) (hlen : (Lib.join xs sep).length ≤ 140737488355328) :
    Tri Tryz.prog 143 #[.slice ad xs.length cap, str sep] [] [bQ_ ad (List.flatMap cn_ xs), bH_] (fun _ : Unit => str (Lib.join xs sep)) (fun _ => []) (fun _ => []) := by
  refine ey_ (callable Tryz.func143 rfl rfl) fun v h1 hs => ?_
  have e : (xs.map fun x => (⟨x.toArray⟩ : ByteArray)).map (·.data.toList) = xs := by simp [List.map_map, Function.comp_def]
  have hr : bq_ v ad (List.flatMap cn_ xs) := hs.1
  obtain ⟨b, off, rfl⟩ := aS_ aM_ (by decide) hr (List.getElem?_eq_getElem (List.length_pos_iff.2 hn))
  have hc : ∀ (j : Nat) (x : Str), xs[j]? = some x → v.w.cell? ⟨b, off + j, none⟩ = some (str x) := fun j x hj => by
    have := hr.cell (k := j) (x := str x) (by have := ao_ aM_ hj 0 (str x) rfl; simpa using this)
    simpa [rad, bas] using this
  have hsz : b < v.w.heap.size := by
    rcases hr with h | ⟨b', off', arr, T, fz, h, him, hb, _⟩
    · cases xs with
      | nil => exact absurd rfl hn
      | cons a l => simp [cn_] at h
    · simp only [Option.some.injEq, Addr.mk.injEq] at h
      rw [h.1]; exact (Array.getElem?_eq_some_iff.1 hb).1
  have := Tryz.strings_Join b off cap (xs.map fun x => ⟨x.toArray⟩) ⟨sep.toArray⟩ v.w (fun j x hj => by
    simp only [List.getElem?_map, Option.map_eq_some_iff] at hj
    obtain ⟨y, hy, rfl⟩ := hj
    exact hc j y hy) hsz (by simp; omega) (by simpa using hcap) (by rw [e]; exact hlen)
  rw [e, List.length_map] at this
  exact this.mono fun _ _ q => ⟨q.1, q.2, .inl hs.2.1.2.2.2.1⟩
theorem kL_ (l : List Ax) (ad : Option Addr) (cap : Nat) (hok : ∀ x ∈ l, x.ok) (hC : ∀ x ∈ l, x.check = 0) (hll : l.length ≤ 1000) : Tri Tryz.prog 121 #[.slice ad (List.length l) cap] [] [ev_ ad l, bH_] (fun _ : Unit => .int .i64 0) (fun _ => []) (fun _ => []) := by
  refine M_ Tryz.func121 rfl rfl Tryz.ntmps121 rfl fun v0 => ?_
  refine f_ (b_ (a_ (e_ rfl) rfl (d_ (c_ rfl (f_ (f_ (b_ (a_ (g_ rfl) rfl (a_ (ar_ bm_ rfl) rfl ?_)))))))))
  refine a_ (g_ rfl) rfl (d_ (c_ rfl (T_ ?_)))
  refine ch_ (ι := {y : Nat // y ≤ List.length l}) (fun y => [(2, .int .i64 0), (6, .slice ad (List.length l) cap), (7, .int .i64 (List.length l : Int)), (8, .int .i64 (y.1 : Int))]) (fun y => ([])) (fun y => [ev_ ad l, bH_]) (fun y => List.length l - y.1) ⟨(0 : Nat), by simp⟩ ⟨rfl, rfl, rfl, rfl, trivial⟩ S_ (fun _ _ h => h) ?_
  rintro ⟨i, hi_i⟩
  dsimp only at hi_i ⊢
  refine f_ (b_ (v_ (aN_ rfl rfl) rfl fun r1 hr1 => ?_))
  refine d_ (c_ rfl (f_ ?_))
  cases r1
  · skip
    replace hr1 := of_decide_eq_false hr1
    refine r_ rfl (aU_ rfl (c_ rfl (f_ (b_ (a_ (e_ rfl) rfl (d_ (c_ rfl (B_ ?_))))))))
    exact aj_ Tryz.results121 () rfl S_ (fun _ _ _ => trivial)
  · skip
    replace hr1 := of_decide_eq_true hr1
    have hlx1 : i < List.length l := by omega
    obtain ⟨x1, hx1⟩ : ∃ e0, l[i]? = some e0 := ⟨_, List.getElem?_eq_getElem hlx1⟩
    have hmx1 : x1 ∈ l := List.mem_of_getElem? hx1
    refine p_ rfl (D_ (c_ rfl (f_ (T_ (f_ (b_ (a_ (am_ bm_ ae_ rfl rfl (fun v _ h => aS_ (n := 16) Ax.cells_len (by decide) (by exact h.1.1) hx1) (by omega) (by first | omega | (simp; done))) rfl (a_ (aH_ (ad := ad) (us := Ax.cells x1) bR_ ae_ rfl (fun v _ h => by exact h.1.1) (Ax.cells_len _) (ao_ Ax.cells_len hx1)) rfl (an_ aT_ rfl fun b1 => ?_)))))))))
    refine ah_ 0 ae_ rfl rfl rfl rfl rfl rfl (d_ (c_ rfl (f_ (b_ (a_ (G_ 0 bR_ ae_ rfl rfl rfl) rfl (A_ (dM_ x1 (hok x1 hmx1)) rfl S_ (fun v _ h => by exact ⟨(h.1.2 x1 hmx1), h.2.1, trivial⟩) rfl fun _ => ?_))))))
    refine a_ (e_ rfl) rfl (d_ (c_ rfl (f_ (b_ (a_ (g_ rfl) rfl (v_ (bO_ rfl rfl) rfl fun r2 hr2 => ?_))))))
    refine d_ (c_ rfl ?_)
    cases r2
    · skip
      replace hr2 := bA_ hr2
      refine r_ rfl (D_ (c_ rfl (b_ (a_ (R_ rfl rfl rfl (aq_ (by omega) (by omega))) rfl (a_ (g_ rfl) rfl (d_ (o_ rfl ?_)))))))
      exact av_ ⟨i + 1, hlx1⟩ (by dsimp only; omega) ⟨rfl, rfl, rfl, rfl, trivial⟩ S_ (fun _ _ h => h)
    · skip
      replace hr2 := bz_ hr2
      exfalso; exact hr2 (hC x1 hmx1)
theorem if_ (l : List Ax) (ad : Option Addr) (cap : Nat) (hok : ∀ x ∈ l, x.ok) (hC : ∀ x ∈ l, x.check = 0) (hll : l.length ≤ 1000) (ns : List Str) (nad : Option Addr) (ncap : Nat) (hL : ∀ x ∈ ns, x.length ≤ 140737488351232) (hN : ∀ x ∈ ns, bb_ x = true) (hnl : ns.length ≤ 1000) : Tri Tryz.prog 65 #[.slice ad (List.length l) cap, .slice nad (List.length ns) ncap] [] [ev_ ad l, bQ_ nad (List.flatMap cn_ ns), bH_] (fun _ : Unit => .int .i64 0) (fun _ => []) (fun _ => []) := by
  refine M_ Tryz.func65 rfl rfl Tryz.ntmps65 rfl fun v0 => ?_
  refine f_ (b_ (a_ (e_ rfl) rfl (d_ (c_ rfl (f_ (f_ (b_ (a_ (g_ rfl) rfl (A_ (kL_ l ad cap hok hC hll) rfl S_ (fun v _ h => by exact ⟨h.1, h.2.2.1, trivial⟩) rfl fun _ => ?_)))))))))
  refine a_ (e_ rfl) rfl (d_ (c_ rfl (f_ (b_ (a_ (g_ rfl) rfl (a_ (bB_ (bO_ rfl rfl) (show _ = Value.bool false from congrArg Value.bool (by decide))) rfl (d_ (c_ rfl (r_ rfl ?_)))))))))
  refine D_ (c_ rfl (f_ (f_ (b_ (a_ (g_ rfl) rfl (a_ (ar_ J_ rfl) rfl (a_ (g_ rfl) rfl (d_ (c_ rfl ?_)))))))))
  refine T_ ?_
  refine ch_ (ι := {y : Nat // y ≤ List.length ns}) (fun y => [(4, .int .i64 0), (14, .slice nad (List.length ns) ncap), (15, .int .i64 (List.length ns : Int)), (16, .int .i64 (y.1 : Int))]) (fun y => ([])) (fun y => [ev_ ad l, bQ_ nad (List.flatMap cn_ ns), bH_]) (fun y => List.length ns - y.1) ⟨(0 : Nat), by simp⟩ ⟨rfl, rfl, rfl, rfl, trivial⟩ S_ (fun _ _ h => h) ?_
  rintro ⟨i, hi_i⟩
  dsimp only at hi_i ⊢
  refine f_ (b_ (v_ (aN_ rfl rfl) rfl fun r1 hr1 => ?_))
  refine d_ (c_ rfl (f_ ?_))
  cases r1
  · skip
    replace hr1 := of_decide_eq_false hr1
    refine r_ rfl (aU_ rfl (c_ rfl (f_ (b_ (a_ (e_ rfl) rfl (d_ (c_ rfl (B_ ?_))))))))
    exact aj_ Tryz.results65 () rfl S_ (fun _ _ _ => trivial)
  · skip
    replace hr1 := of_decide_eq_true hr1
    have hlx1 : i < List.length ns := by omega
    obtain ⟨x1, hx1⟩ : ∃ e0, ns[i]? = some e0 := ⟨_, List.getElem?_eq_getElem hlx1⟩
    have hmx1 : x1 ∈ ns := List.mem_of_getElem? hx1
    refine p_ rfl (D_ (c_ rfl (f_ (T_ (f_ (b_ (a_ (am_ J_ z_ rfl rfl (fun v _ h => aS_ (n := 1) aM_ (by decide) (by exact h.2.1) hx1) (by omega) (by first | omega | (simp; done))) rfl (a_ (bw_ (ad := nad) E_ rfl (fun v _ h => by exact h.2.1) (ao_ aM_ hx1 0 _ rfl)) rfl (a_ (e_ rfl) rfl ?_)))))))))
    refine d_ (c_ rfl (f_ (b_ (a_ (g_ rfl) rfl (A_ (dE_ x1 (hL x1 hmx1)) rfl S_ (fun _ _ _ => by exact trivial) rfl fun _ => ?_)))))
    refine a_ (e_ rfl) rfl (d_ (c_ rfl (f_ (b_ (a_ (g_ rfl) rfl (v_ (bO_ rfl rfl) rfl fun r2 hr2 => ?_))))))
    refine d_ (c_ rfl ?_)
    cases r2
    · skip
      replace hr2 := bA_ hr2
      refine r_ rfl (D_ (c_ rfl (b_ (a_ (R_ rfl rfl rfl (aq_ (by omega) (by omega))) rfl (a_ (g_ rfl) rfl (d_ (o_ rfl ?_)))))))
      exact av_ ⟨i + 1, hlx1⟩ (by dsimp only; omega) ⟨rfl, rfl, rfl, rfl, trivial⟩ S_ (fun _ _ h => h)
    · skip
      replace hr2 := bz_ hr2
      exfalso; exact hr2 (by rw [if_pos (hN x1 hmx1)])
end Go.Proofs.YtoafjmalfclpoaaGreatDoor
