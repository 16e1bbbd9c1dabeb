/-
  Part of the proof of the law IncrementAxioms over this seat: the small logic, the data, the contracts of functions (no condition).
-/
import Derived.Test.YtpdbbglpbngeiaaGreatDoorQIncrementAxioms0
import Derived.WalkKit
import Derived.OrdersHeld
import Derived.Deep.LoopGhost
import Derived.RangeFuncIn
import Derived.RangeFuncLeaves
import Derived.TacticsIn
import Derived.RangeFuncRecord
import Derived.Lib.Bytealg
import Derived.Below
import Derived.MapKept
import Derived.Deep.Draws
import Derived.Sort.Grow
import Derived.Lib.Join
import Derived.Lib.ItoaLen
import Derived.Laws.StructEq
set_option linter.unusedVariables false
set_option linter.unusedSimpArgs false
set_option linter.unusedSectionVars false
namespace Go.Sx
open Go
structure Vw where
  im : Nat → Prop
  w : World
  sl : Prop
abbrev Fr := List (Nat × Value)
abbrev Hp := List (Nat × Obj)
def Fr.get : Fr → Nat → Option Value
  | [], _ => none
  | (t, v) :: r, n => bif Nat.beq t n then some v else Fr.get r n
structure Fr.sat (N : Nat) (fr : Fr) (a : Act) : Prop where
  size : a.tmps.size = N
  defers : a.defers = []
  val : ∀ t v, Fr.get fr t = some v → a.tmps[t]? = some v
structure Vw.sat (v : Vw) (H : Hp) : Prop where
  own : ∀ p, p ∈ H → v.w.heap[p.1]? = some p.2 ∧ ¬ v.im p.1
  nodup : (H.map Prod.fst).Nodup
  lt : ∀ b, v.im b → b < v.w.heap.size
structure Vw.to (v : Vw) (H : Hp) (v' : Vw) (H' : Hp) : Prop where
  os : v'.w.os = v.w.os
  tape : v'.w.tape = v.w.tape
  output : v'.w.output = v.w.output
  size : v.w.heap.size ≤ v'.w.heap.size
  block : ∀ b, b < v.w.heap.size → b ∉ H.map Prod.fst → v'.w.heap[b]? = v.w.heap[b]?
  imUp : ∀ b, v.im b → v'.im b
  imNew : ∀ b, v'.im b → v.im b ∨ b ∈ H.map Prod.fst ∨ v.w.heap.size ≤ b
  hNew : ∀ b, b ∈ H'.map Prod.fst → b ∈ H.map Prod.fst ∨ v.w.heap.size ≤ b
  sl : v'.sl = v.sl
  dr : v.sl ∨ v.w.drawn ≤ v'.w.drawn
structure Vw.le (v v' : Vw) : Prop where
  imUp : ∀ b, v.im b → v'.im b
  block : ∀ b, v.im b → v'.w.heap[b]? = v.w.heap[b]?
  sl : v'.sl = v.sl
structure Fct where
  p : Vw → Prop
  mono : ∀ v v', v.le v' → p v → p v'
def aI_ : List Fct → Vw → Prop
  | [], _ => True
  | f :: l, v => f.p v ∧ aI_ l v
theorem eX_ {a b : List Fct} {v : Vw} : aI_ (a ++ b) v ↔ aI_ a v ∧ aI_ b v := by
  induction a with
  | nil => simp [aI_]
  | cons f l ih => simp [aI_, ih, and_assoc]
theorem bC_ {l : List Fct} {v v' : Vw} (h : v.le v') : aI_ l v → aI_ l v' := by
  induction l with
  | nil => exact fun _ => trivial
  | cons f l ih => exact fun ⟨a, b⟩ => ⟨f.mono _ _ h a, ih b⟩
theorem Vw.to.le {v v' : Vw} {H H' : Hp} (hs : v.sat H) (h : v.to H v' H') : v.le v' :=
  ⟨h.imUp, fun b hb => h.block b (hs.lt b hb) (fun hm => by
    obtain ⟨p, hp, rfl⟩ := List.mem_map.1 hm
    exact (hs.own p hp).2 hb), h.sl⟩
theorem Vw.to.refl (v : Vw) (H : Hp) : v.to H v H :=
  ⟨rfl, rfl, rfl, Nat.le_refl _, fun _ _ _ => rfl, fun _ h => h, fun _ h => .inl h, fun _ h => .inl h, rfl, .inr (Nat.le_refl _)⟩
theorem Vw.to.trans {a b c : Vw} {Ha Hb Hc : Hp} (h : a.to Ha b Hb) (k : b.to Hb c Hc) : a.to Ha c Hc where
  os := k.os.trans h.os
  tape := k.tape.trans h.tape
  output := k.output.trans h.output
  size := Nat.le_trans h.size k.size
  block := fun x hx hn => by
    rw [k.block x (Nat.lt_of_lt_of_le hx h.size) (fun hm => (h.hNew x hm).elim hn (fun hl => by omega))]
    exact h.block x hx hn
  imUp := fun x hx => k.imUp x (h.imUp x hx)
  imNew := fun x hx => by
    rcases k.imNew x hx with h1 | h1 | h1
    · exact h.imNew x h1
    · exact .inr (h.hNew x h1)
    · exact .inr (.inr (Nat.le_trans h.size h1))
  hNew := fun x hx => by
    rcases k.hNew x hx with h1 | h1
    · exact h.hNew x h1
    · exact .inr (Nat.le_trans h.size h1)
  sl := k.sl.trans h.sl
  dr := by
    rcases h.dr with h1 | h1
    · exact .inl h1
    · rcases k.dr with h2 | h2
      · exact .inl (by rw [← h.sl]; exact h2)
      · exact .inr (Nat.le_trans h1 h2)
theorem Vw.to.frame {v v' : Vw} {H H' F : Hp} (hs : v.sat (H ++ F)) (hs' : v'.sat H') (h : v.to H v' H') :
    v'.sat (H' ++ F) ∧ v.to (H ++ F) v' (H' ++ F) := by
  have hnd := hs.nodup
  rw [List.map_append, List.nodup_append] at hnd
  have hF : ∀ p, p ∈ F → p.1 ∉ H.map Prod.fst := fun p hp hm => hnd.2.2 _ hm _ (List.mem_map_of_mem hp) rfl
  have hlt : ∀ p, p ∈ F → p.1 < v.w.heap.size := fun p hp => by
    have := (hs.own p (List.mem_append_right _ hp)).1
    exact (Array.getElem?_eq_some_iff.1 this).1
  have hnew : ∀ p, p ∈ F → p.1 ∉ H'.map Prod.fst := fun p hp hm => by
    rcases h.hNew _ hm with h1 | h1
    · exact hF p hp h1
    · have := hlt p hp; omega
  refine ⟨⟨fun p hp => ?_, ?_, hs'.lt⟩, ?_⟩
  · rcases List.mem_append.1 hp with h1 | h1
    · exact hs'.own p h1
    · have h2 := hs.own p (List.mem_append_right _ h1)
      refine ⟨by rw [h.block _ (hlt p h1) (hF p h1)]; exact h2.1, fun hi => ?_⟩
      rcases h.imNew _ hi with h3 | h3 | h3
      · exact h2.2 h3
      · exact hF p h1 h3
      · have := hlt p h1; omega
  · rw [List.map_append, List.nodup_append]
    refine ⟨hs'.nodup, hnd.2.1, fun x hx y hy e => ?_⟩
    subst e
    obtain ⟨p, hp, rfl⟩ := List.mem_map.1 hy
    exact hnew p hp hx
  · refine ⟨h.os, h.tape, h.output, h.size, fun b hb hn => h.block b hb (fun hm => hn ?_), h.imUp, fun b hb => ?_, fun b hb => ?_, h.sl, h.dr⟩
    · rw [List.map_append]; exact List.mem_append_left _ hm
    · rcases h.imNew b hb with h1 | h1 | h1
      · exact .inl h1
      · exact .inr (.inl (by rw [List.map_append]; exact List.mem_append_left _ h1))
      · exact .inr (.inr h1)
    · rw [List.map_append] at hb ⊢
      rcases List.mem_append.1 hb with h1 | h1
      · rcases h.hNew b h1 with h2 | h2
        · exact .inl (List.mem_append_left _ h2)
        · exact .inr h2
      · exact .inl (List.mem_append_right _ h1)
theorem Vw.sat.perm {v : Vw} {H H' : Hp} (h : v.sat H) (p : H.Perm H') : v.sat H' :=
  ⟨fun x hx => h.own x (p.mem_iff.2 hx), (p.map _).nodup_iff.1 h.nodup, h.lt⟩
theorem Vw.sat.sub {v : Vw} {H F : Hp} (h : v.sat (H ++ F)) : v.sat H :=
  ⟨fun x hx => h.own x (List.mem_append_left _ hx), by have := h.nodup; rw [List.map_append, List.nodup_append] at this; exact this.1, h.lt⟩
theorem Vw.to.permL {v v' : Vw} {H K H' : Hp} (h : v.to H v' H') (p : H.Perm K) : v.to K v' H' := by
  have e : ∀ b, b ∈ H.map Prod.fst ↔ b ∈ K.map Prod.fst := fun b => (p.map _).mem_iff
  exact ⟨h.os, h.tape, h.output, h.size, fun b hb hn => h.block b hb (fun hm => hn ((e b).1 hm)), h.imUp,
    fun b hb => (h.imNew b hb).imp id (Or.imp (e b).1 id), fun b hb => (h.hNew b hb).imp (e b).1 id, h.sl, h.dr⟩
theorem Vw.to.subR {v v' : Vw} {H H' K : Hp} (h : v.to H v' H') (p : ∀ b, b ∈ K.map Prod.fst → b ∈ H'.map Prod.fst) : v.to H v' K :=
  ⟨h.os, h.tape, h.output, h.size, h.block, h.imUp, h.imNew, fun b hb => h.hNew b (p b hb), h.sl, h.dr⟩
def Ok (N : Nat) (v0 : Vw) (H0 : Hp) (k : Act → World → Prop) (fr : Fr) (H : Hp) (Γ : List Fct) : Prop :=
  ∀ a v, Fr.sat N fr a → v.sat H → v0.to H0 v H → aI_ Γ v → k a v.w
inductive Kt where
  | seq (c : Code)
  | blk (id : Nat)
  | inv (J : Act → World → Prop)
def post (P : Program) (R : Exit → Act → World → Prop) : List Kt → Exit → Act → World → Prop
  | [], e, a, w => R e a w
  | .seq c :: K, .normal, a, w => c.wp P (post P R K) a w
  | .seq _ :: K, e, a, w => post P R K e a w
  | .inv J :: _, .normal, a, w => J a w
  | .inv _ :: K, e, a, w => post P R K e a w
  | .blk id :: K, .exit id', a, w => if id' = id then post P R K .normal a w else post P R K (.exit id') a w
  | .blk _ :: K, e, a, w => post P R K e a w
theorem qw_ (P : Program) (R : Exit → Act → World → Prop) (K : List Kt) (a : Act) (w : World) (h : R .ret a w) : post P R K .ret a w := by
  induction K with
  | nil => exact h
  | cons x K ih => cases x <;> exact ih
def unw (id : Nat) : List Kt → Option (List Kt)
  | [] => none
  | .blk i :: K => bif Nat.beq id i then some K else unw id K
  | .seq _ :: K => unw id K
  | .inv _ :: K => unw id K
theorem hc_ {P : Program} {R : Exit → Act → World → Prop} {id : Nat} {K' : List Kt} {a : Act} {w : World} :
    ∀ {K : List Kt}, unw id K = some K' → post P R K' .normal a w → post P R K (.exit id) a w
  | [], h, _ => by simp [unw] at h
  | .seq _ :: K, h, hp => hc_ (K := K) (by simpa [unw] using h) hp
  | .inv _ :: K, h, hp => hc_ (K := K) (by simpa [unw] using h) hp
  | .blk i :: K, h, hp => by
    simp only [unw] at h
    by_cases e : id = i
    · subst e
      simp only [Nat.beq_refl, cond_true, Option.some.injEq] at h
      subst h
      simp only [post, if_true]; exact hp
    · have : Nat.beq id i = false := by
        cases hb : Nat.beq id i
        · rfl
        · exact absurd (Nat.eq_of_beq_eq_true hb) e
      rw [this, cond_false] at h
      simp only [post, e, if_false]
      exact hc_ h hp
def nxt : List Kt → Option (Code × List Kt)
  | .seq c :: K => some (c, K)
  | .blk _ :: K => nxt K
  | _ => none
theorem kH_ {P : Program} {R : Exit → Act → World → Prop} {c : Code} {K' : List Kt} {a : Act} {w : World} :
    ∀ {K : List Kt}, nxt K = some (c, K') → c.wp P (post P R K') a w → post P R K .normal a w
  | [], h, _ => by simp [nxt] at h
  | .seq _ :: K, h, hp => by simp only [nxt, Option.some.injEq, Prod.mk.injEq] at h; obtain ⟨rfl, rfl⟩ := h; exact hp
  | .blk _ :: K, h, hp => kH_ (K := K) (by simpa [nxt] using h) hp
  | .inv _ :: K, h, _ => by simp [nxt] at h
def hz_ : List Kt → Option (Act → World → Prop)
  | .inv J :: _ => some J
  | .blk _ :: K => hz_ K
  | _ => none
theorem mB_ {P : Program} {R : Exit → Act → World → Prop} {J : Act → World → Prop} {a : Act} {w : World} :
    ∀ {K : List Kt}, hz_ K = some J → J a w → post P R K .normal a w
  | [], h, _ => by simp [hz_] at h
  | .inv _ :: K, h, hp => by simp only [hz_, Option.some.injEq] at h; subst h; exact hp
  | .blk _ :: K, h, hp => mB_ (K := K) (by simpa [hz_] using h) hp
  | .seq _ :: K, h, _ => by simp [hz_] at h
def fp_ : List Kt → Bool
  | [] => true
  | .blk _ :: K => fp_ K
  | _ => false
theorem mC_ {P : Program} {R : Exit → Act → World → Prop} {a : Act} {w : World} :
    ∀ {K : List Kt}, fp_ K = true → R .normal a w → post P R K .normal a w
  | [], _, hp => hp
  | .inv _ :: K, h, _ => by simp [fp_] at h
  | .blk _ :: K, h, hp => mC_ (K := K) (by simpa [fp_] using h) hp
  | .seq _ :: K, h, _ => by simp [fp_] at h
section code
variable {P : Program} {N : Nat} {v0 : Vw} {H0 : Hp} {R : Exit → Act → World → Prop} {K : List Kt} {fr : Fr} {H : Hp} {Γ : List Fct}
abbrev Run (P : Program) (R : Exit → Act → World → Prop) (N : Nat) (v0 : Vw) (H0 : Hp) (c : Code) (K : List Kt) (fr : Fr) (H : Hp) (Γ : List Fct) : Prop :=
  Ok N v0 H0 (c.wp P (post P R K)) fr H Γ
abbrev Fin (P : Program) (R : Exit → Act → World → Prop) (N : Nat) (v0 : Vw) (H0 : Hp) (K : List Kt) (fr : Fr) (H : Hp) (Γ : List Fct) : Prop :=
  Ok N v0 H0 (post P R K .normal) fr H Γ
abbrev Ops (P : Program) (R : Exit → Act → World → Prop) (N : Nat) (v0 : Vw) (H0 : Hp) (ops : Array Oper) (l : List Oper) (K : List Kt) (fr : Fr) (H : Hp) (Γ : List Fct) : Prop :=
  Ok N v0 H0 (wpList P ops (post P R K) l) fr H Γ
theorem f_ {x y : Code} (h : Run P R N v0 H0 x (.seq y :: K) fr H Γ) : Run P R N v0 H0 (.seq x y) K fr H Γ :=
  fun a v h1 h2 h3 h4 => wp_seq (wp_mono (h a v h1 h2 h3 h4) fun e a w hq => by cases e <;> exact hq)
theorem S_ {id : Nat} {c : Code} (h : Run P R N v0 H0 c (.blk id :: K) fr H Γ) : Run P R N v0 H0 (.block id c) K fr H Γ :=
  fun a v h1 h2 h3 h4 => wp_block (wp_mono (h a v h1 h2 h3 h4) fun e a w hq => by cases e <;> exact hq)
theorem A_ (h : Fin P R N v0 H0 K fr H Γ) : Run P R N v0 H0 .skip K fr H Γ :=
  fun a v h1 h2 h3 h4 => wp_skip (h a v h1 h2 h3 h4)
theorem aD_ {id : Nat} {K' : List Kt} (hu : unw id K = some K') (h : Fin P R N v0 H0 K' fr H Γ) : Run P R N v0 H0 (.exit id) K fr H Γ :=
  fun a v h1 h2 h3 h4 => wp_exit (hc_ hu (h a v h1 h2 h3 h4))
theorem B_ (h : Ok N v0 H0 (R .ret) fr H Γ) : Run P R N v0 H0 .ret K fr H Γ :=
  fun a v h1 h2 h3 h4 => wp_ret (qw_ P R K a v.w (h a v h1 h2 h3 h4))
theorem b_ {c : Code} {K' : List Kt} (hn : nxt K = some (c, K')) (h : Run P R N v0 H0 c K' fr H Γ) : Fin P R N v0 H0 K fr H Γ :=
  fun a v h1 h2 h3 h4 => kH_ hn (h a v h1 h2 h3 h4)
theorem r_ {J : Act → World → Prop} (hn : hz_ K = some J) (h : Ok N v0 H0 J fr H Γ) : Fin P R N v0 H0 K fr H Γ :=
  fun a v h1 h2 h3 h4 => mB_ hn (h a v h1 h2 h3 h4)
theorem aO_ (hn : fp_ K = true) (h : Ok N v0 H0 (R .normal) fr H Γ) : Fin P R N v0 H0 K fr H Γ :=
  fun a v h1 h2 h3 h4 => mC_ hn (h a v h1 h2 h3 h4)
theorem c_ {id : Nat} {l : List Oper} (h : Ops P R N v0 H0 l.toArray l K fr H Γ) : Run P R N v0 H0 (.region id l.toArray false) K fr H Γ :=
  fun a v h1 h2 h3 h4 => wp_region_lit (h a v h1 h2 h3 h4)
theorem d_ {ops : Array Oper} (h : Fin P R N v0 H0 K fr H Γ) : Ops P R N v0 H0 ops [] K fr H Γ :=
  fun a v h1 h2 h3 h4 => wpList_nil (h a v h1 h2 h3 h4)
def Fr.ev (fr : Fr) : Operand → Option Value
  | .tmp t => Fr.get fr t
  | .const v => some v
  | .global g => some (.pointer (some ⟨g, 0, none⟩))
  | .func f => some (.func (.func f) #[] #[])
theorem Fr.sat.ev {a : Act} {x : Operand} {v : Value} (h : Fr.sat N fr a) (hx : Fr.ev fr x = some v) : a.eval x = v := by
  cases x with
  | tmp t => have := h.val t v hx; simp [Act.eval, this]
  | const c => simpa [Fr.ev, Act.eval] using hx
  | global g => simpa [Fr.ev, Act.eval] using hx
  | func f => simpa [Fr.ev, Act.eval] using hx
theorem Fr.sat.put {a : Act} {d : Nat} {x : Value} (h : Fr.sat N fr a) (hd : Nat.blt d N = true) : Fr.sat N ((d, x) :: fr) (a.put (some d) x) := by
  have hd' : d < N := by simpa [Nat.blt_eq] using hd
  refine ⟨by simp [Act.put, h.size], h.defers, fun t v ht => ?_⟩
  simp only [Fr.get] at ht
  by_cases e : d = t
  · subst e
    simp only [Nat.beq_refl, cond_true, Option.some.injEq] at ht
    subst ht
    simp [Act.put, Array.getElem?_setIfInBounds, h.size, hd']
  · have hb : Nat.beq d t = false := by
      cases hb : Nat.beq d t
      · rfl
      · exact absurd (Nat.eq_of_beq_eq_true hb) e
    rw [hb, cond_false] at ht
    simp only [Act.put]
    rw [Array.getElem?_setIfInBounds_ne e]
    exact h.val t v ht
theorem rX_ {k : Act → World → Prop} (fr' : Fr) (hs : ∀ t v, Fr.get fr' t = some v → Fr.get fr t = some v) (h : Ok N v0 H0 k fr' H Γ) : Ok N v0 H0 k fr H Γ :=
  fun a v h1 h2 h3 h4 => h a v ⟨h1.size, h1.defers, fun t x hx => h1.val t x (hs t x hx)⟩ h2 h3 h4
def Fr.le : Fr → Fr → Prop
  | [], _ => True
  | (t, v) :: r, fr => Fr.get fr t = some v ∧ Fr.le r fr
theorem Fr.le_get {fr' fr : Fr} (h : Fr.le fr' fr) : ∀ t v, Fr.get fr' t = some v → Fr.get fr t = some v := by
  induction fr' with
  | nil => intro t v ht; simp [Fr.get] at ht
  | cons p r ih =>
    obtain ⟨s, u⟩ := p
    intro t v ht
    simp only [Fr.get] at ht
    by_cases e : s = t
    · subst e
      simp only [Nat.beq_refl, cond_true, Option.some.injEq] at ht
      subst ht; exact h.1
    · have hb : Nat.beq s t = false := by
        cases hb : Nat.beq s t
        · rfl
        · exact absurd (Nat.eq_of_beq_eq_true hb) e
      rw [hb, cond_false] at ht
      exact ih h.2 t v ht
theorem bS_ {k : Act → World → Prop} (fr' : Fr) (hs : Fr.le fr' fr) (h : Ok N v0 H0 k fr' H Γ) : Ok N v0 H0 k fr H Γ :=
  rX_ fr' (Fr.le_get hs) h
theorem ew_ {k : Act → World → Prop} {H' F : Hp} {Γ' : List Fct} (hH : H.Perm (H' ++ F)) (hΓ : ∀ v, v.sat H → aI_ Γ v → aI_ Γ' v) (h : Ok N v0 H0 k fr H' Γ') : Ok N v0 H0 k fr H Γ :=
  fun a v h1 h2 h3 h4 => h a v h1 (h2.perm hH).sub (h3.subR fun b hb => by
    have : b ∈ (H' ++ F).map Prod.fst := by rw [List.map_append]; exact List.mem_append_left _ hb
    exact (hH.map Prod.fst).mem_iff.2 this) (hΓ v h2 h4)
theorem mK_ {k : Act → World → Prop} {Γ' : List Fct} (hΓ : ∀ v, v.sat H → aI_ Γ v → aI_ Γ' v) (h : Ok N v0 H0 k fr H Γ') : Ok N v0 H0 k fr H Γ :=
  fun a v h1 h2 h3 h4 => h a v h1 h2 h3 (hΓ v h2 h4)
theorem qD_ {k : Act → World → Prop} {p : Prop} (hp : ∀ v, v.sat H → aI_ Γ v → p) (h : p → Ok N v0 H0 k fr H Γ) : Ok N v0 H0 k fr H Γ :=
  fun a v h1 h2 h3 h4 => h (hp v h2 h4) a v h1 h2 h3 h4
theorem mp_ {c : Operand} {x y : Code} {t : Bool} (hc : Fr.ev fr c = some (.bool t)) (hx : t = true → Run P R N v0 H0 x K fr H Γ) (hy : t = false → Run P R N v0 H0 y K fr H Γ) :
    Run P R N v0 H0 (.cond c x y) K fr H Γ :=
  fun a v h1 h2 h3 h4 => wp_cond_split (h1.ev hc) (fun e => hx e a v h1 h2 h3 h4) (fun e => hy e a v h1 h2 h3 h4)
theorem n_ {c : Operand} {x y : Code} (hc : Fr.ev fr c = some (.bool true)) (hx : Run P R N v0 H0 x K fr H Γ) : Run P R N v0 H0 (.cond c x y) K fr H Γ :=
  mp_ hc (fun _ => hx) (fun e => by cases e)
theorem p_ {c : Operand} {x y : Code} (hc : Fr.ev fr c = some (.bool false)) (hy : Run P R N v0 H0 y K fr H Γ) : Run P R N v0 H0 (.cond c x y) K fr H Γ :=
  mp_ hc (fun e => by cases e) (fun _ => hy)
def rr_ {ι : Type} (N : Nat) (v0 : Vw) (H0 : Hp) (frs : ι → Fr) (Hs : ι → Hp) (Γs : ι → List Fct) (μ : ι → Nat) (n : Nat) (a : Act) (w : World) : Prop :=
  ∃ j v, v.w = w ∧ Fr.sat N (frs j) a ∧ v.sat (Hs j) ∧ v0.to H0 v (Hs j) ∧ aI_ (Γs j) v ∧ μ j < n
theorem bY_ {ι : Type} {c : Code} (frs : ι → Fr) (Hs : ι → Hp) (Γs : ι → List Fct) (μ : ι → Nat) (i0 : ι)
    (round : ∀ i, Run P R N v0 H0 c (.inv (rr_ N v0 H0 frs Hs Γs μ (μ i)) :: K) (frs i) (Hs i) (Γs i)) :
    Run P R N v0 H0 (.loop c) K (frs i0) (Hs i0) (Γs i0) := by
  intro a v h1 h2 h3 h4
  refine wp_loop_ghost (fun n a w => ∃ i v, v.w = w ∧ Fr.sat N (frs i) a ∧ v.sat (Hs i) ∧ v0.to H0 v (Hs i) ∧ aI_ (Γs i) v ∧ μ i = n) (μ i0) ⟨i0, v, rfl, h1, h2, h3, h4, rfl⟩ ?_
  rintro n a w ⟨i, v, rfl, g1, g2, g3, g4, rfl⟩
  refine wp_mono (round i a v g1 g2 g3 g4) fun e a' w' hq => ?_
  cases e with
  | normal =>
    obtain ⟨j, v', e1, k1, k2, k3, k4, hlt⟩ := hq
    exact ⟨μ j, hlt, j, v', e1, k1, k2, k3, k4, rfl⟩
  | exit id => exact hq
  | goto l => exact hq
  | ret => exact hq
  | panic ch => exact hq
  | outgrown => exact hq
theorem aV_ {ι : Type} {c : Code} (frs : ι → Fr) (Hs : ι → Hp) (Γs : ι → List Fct) (μ : ι → Nat) (i0 : ι) {F : Hp} (hfr : Fr.le (frs i0) fr) (hH : H.Perm (Hs i0 ++ F)) (hΓ : ∀ v, v.sat H → aI_ Γ v → aI_ (Γs i0) v)
    (round : ∀ i, Run P R N v0 H0 c (.inv (rr_ N v0 H0 frs Hs Γs μ (μ i)) :: K) (frs i) (Hs i) (Γs i)) : Run P R N v0 H0 (.loop c) K fr H Γ :=
  bS_ _ hfr (ew_ hH hΓ (bY_ frs Hs Γs μ i0 round))
theorem ao_ {ι : Type} {frs : ι → Fr} {Hs : ι → Hp} {Γs : ι → List Fct} {μ : ι → Nat} {n : Nat} (j : ι) {F : Hp} (hμ : μ j < n) (hfr : Fr.le (frs j) fr) (hH : H.Perm (Hs j ++ F))
    (hΓ : ∀ v, v.sat H → aI_ Γ v → aI_ (Γs j) v) : Ok N v0 H0 (rr_ N v0 H0 frs Hs Γs μ n) fr H Γ :=
  bS_ (frs j) hfr (ew_ hH hΓ fun _ v h1 h2 h3 h4 => ⟨j, v, rfl, h1, h2, h3, h4, hμ⟩)
end code
end Go.Sx
namespace Go.Sx
open Go
section ops
variable {P : Program} {N : Nat} {v0 : Vw} {H0 : Hp} {R : Exit → Act → World → Prop} {K : List Kt} {fr : Fr} {H : Hp} {Γ : List Fct}
variable {ops : Array Oper} {l : List Oper} {d : Nat} {ty : TypeId} {ps : String} {af : Array Edge}
theorem dF_ {o : Oper} (hg : o.guard = none) (h : ∀ a v, Fr.sat N fr a → v.sat H → v0.to H0 v H → aI_ Γ v → o.wp P a v.w (wpList P ops (post P R K) l) (post P R K)) :
    Ops P R N v0 H0 ops (o :: l) K fr H Γ :=
  fun a v h1 h2 h3 h4 => wpList_plain hg fun K' hK => Oper.wp_mono hK (h a v h1 h2 h3 h4)
def Yld (P : Program) (N : Nat) (fr : Fr) (H : Hp) (Γ : List Fct) (op : Op) (ty : TypeId) (x : Value) : Prop :=
  ∀ a v, Fr.sat N fr a → v.sat H → aI_ Γ v → ∀ d ps af, (execOp a.eval ⟨d, op, ty, ps, af, none⟩).run P v.w = .ok (.value x) v.w
theorem a_ {op : Op} {x : Value} (he : Yld P N fr H Γ op ty x) (hN : Nat.blt d N = true)
    (hk : Ops P R N v0 H0 ops l K ((d, x) :: fr) H Γ) : Ops P R N v0 H0 ops (⟨some d, op, ty, ps, af, none⟩ :: l) K fr H Γ :=
  dF_ rfl fun a v h1 h2 h3 h4 => by
    unfold Oper.wp
    rw [he a v h1 h2 h4 (some d) ps af]
    exact hk _ v (h1.put hN) h2 h3 h4
theorem x_ {op : Op} {X : Bool} (he : Yld P N fr H Γ op ty (.bool X)) (hN : Nat.blt d N = true)
    (hk : ∀ r : Bool, X = r → Ops P R N v0 H0 ops l K ((d, .bool r) :: fr) H Γ) : Ops P R N v0 H0 ops (⟨some d, op, ty, ps, af, none⟩ :: l) K fr H Γ :=
  a_ he hN (hk X rfl)
def ib_ (ops : Array Oper) (j : Nat) : Option Nat := (ops[j]?).bind (·.dst)
theorem gc_ {a : Act} {j t : Nat} {x : Value} (h : Fr.sat N fr a) (hj : ib_ ops j = some t) (hx : Fr.get fr t = some x) :
    yielded ops a.tmps j = match x with | .bool b => some b | _ => none := by
  have e : ((ops[j]?).bind (·.dst)).bind (a.tmps[·]?) = some x := by
    show (ib_ ops j).bind _ = _
    rw [hj]; exact h.val t x hx
  unfold yielded
  rw [e]
  cases x <;> rfl
theorem o_ {op : Op} {dst : Option Nat} {j t : Nat} {want : Bool} (hj : ib_ ops j = some t) (hx : Fr.get fr t = some (.bool want))
    (h : Ops P R N v0 H0 ops (⟨dst, op, ty, ps, af, none⟩ :: l) K fr H Γ) : Ops P R N v0 H0 ops (⟨dst, op, ty, ps, af, some (j, want)⟩ :: l) K fr H Γ :=
  fun a v h1 h2 h3 h4 => by
    have hw : Region.wanted (⟨dst, op, ty, ps, af, some (j, want)⟩ : Oper) (yielded ops a.tmps) = true := by
      simp [Region.wanted, gc_ h1 hj hx]
    have hw' : Region.wanted (⟨dst, op, ty, ps, af, none⟩ : Oper) (yielded ops a.tmps) = true := rfl
    have := h a v h1 h2 h3 h4
    unfold wpList at this ⊢
    rw [if_pos hw'] at this
    rw [if_pos hw]
    exact this
theorem t_ {op : Op} {j t : Nat} {want : Bool} {x : Value} (hj : ib_ ops j = some t) (hx : Fr.get fr t = some x) (hne : (match x with | .bool b => Bool.xor b want | _ => true) = true) (hN : Nat.blt d N = true)
    (h : Ops P R N v0 H0 ops l K ((d, undef) :: fr) H Γ) : Ops P R N v0 H0 ops (⟨some d, op, ty, ps, af, some (j, want)⟩ :: l) K fr H Γ :=
  fun a v h1 h2 h3 h4 => by
    have hw : Region.wanted (⟨some d, op, ty, ps, af, some (j, want)⟩ : Oper) (yielded ops a.tmps) = false := by
      simp only [Region.wanted, gc_ h1 hj hx]
      cases x <;> first | rfl | (rename_i b; cases b <;> cases want <;> simp_all)
    exact wpList_skip hw (h _ v (h1.put hN) h2 h3 h4)
theorem h_ {x : Operand} {u : Value} (hx : Fr.ev fr x = some u) :
    Yld P N fr H Γ (.move x) ty (u) :=
  fun a v h1 _ _ _ _ _ => by rw [← h1.ev hx]; rfl
theorem g_ {x : Operand} {u : Value} (hx : Fr.ev fr x = some u) :
    Yld P N fr H Γ (.assign x) ty (u) :=
  fun a v h1 _ _ _ _ _ => by rw [← h1.ev hx]; rfl
theorem R_ {c x y : Operand} {u : Value} (hc : Fr.ev fr c = some (.bool true)) (hx : Fr.ev fr x = some u) :
    Yld P N fr H Γ (.pick c x y) ty (u) :=
  fun a v h1 _ _ _ _ _ => by simp [execOp, h1.ev hc, h1.ev hx, asBool]
theorem N_ {c x y : Operand} {u : Value} (hc : Fr.ev fr c = some (.bool false)) (hx : Fr.ev fr y = some u) :
    Yld P N fr H Γ (.pick c x y) ty (u) :=
  fun a v h1 _ _ _ _ _ => by simp [execOp, h1.ev hc, h1.ev hx, asBool]
theorem aA_ {t t' : TypeId} {x y : Operand} {k : IntKind} {m n : Int} (hx : Fr.ev fr x = some (.int k m)) (hy : Fr.ev fr y = some (.int k n)) :
    Yld P N fr H Γ (.binOp .eql t x y t') ty (.bool ((m == n))) :=
  fun a v h1 _ _ _ _ _ => by simp [execOp, h1.ev hx, h1.ev hy, eqGuard, binOp, Op.intCmp]
theorem bR_ {t t' : TypeId} {x y : Operand} {k : IntKind} {m n : Int} (hx : Fr.ev fr x = some (.int k m)) (hy : Fr.ev fr y = some (.int k n)) :
    Yld P N fr H Γ (.binOp .neq t x y t') ty (.bool ((m != n))) :=
  fun a v h1 _ _ _ _ _ => by simp [execOp, h1.ev hx, h1.ev hy, eqGuard, binOp, Op.intCmp]
theorem az_ {t t' : TypeId} {x y : Operand} {k : IntKind} {m n : Int} (hx : Fr.ev fr x = some (.int k m)) (hy : Fr.ev fr y = some (.int k n)) :
    Yld P N fr H Γ (.binOp .lss t x y t') ty (.bool (decide (m < n))) :=
  fun a v h1 _ _ _ _ _ => by simp [execOp, h1.ev hx, h1.ev hy, eqGuard, binOp, Op.intCmp]
theorem cJ_ {t t' : TypeId} {x y : Operand} {k : IntKind} {m n : Int} (hx : Fr.ev fr x = some (.int k m)) (hy : Fr.ev fr y = some (.int k n)) :
    Yld P N fr H Γ (.binOp .leq t x y t') ty (.bool (decide (m ≤ n))) :=
  fun a v h1 _ _ _ _ _ => by simp [execOp, h1.ev hx, h1.ev hy, eqGuard, binOp, Op.intCmp]
theorem bK_ {t t' : TypeId} {x y : Operand} {k : IntKind} {m n : Int} (hx : Fr.ev fr x = some (.int k m)) (hy : Fr.ev fr y = some (.int k n)) :
    Yld P N fr H Γ (.binOp .gtr t x y t') ty (.bool (decide (n < m))) :=
  fun a v h1 _ _ _ _ _ => by simp [execOp, h1.ev hx, h1.ev hy, eqGuard, binOp, Op.intCmp]
theorem dI_ {t t' : TypeId} {x y : Operand} {k : IntKind} {m n : Int} (hx : Fr.ev fr x = some (.int k m)) (hy : Fr.ev fr y = some (.int k n)) :
    Yld P N fr H Γ (.binOp .geq t x y t') ty (.bool (decide (n ≤ m))) :=
  fun a v h1 _ _ _ _ _ => by simp [execOp, h1.ev hx, h1.ev hy, eqGuard, binOp, Op.intCmp]
def qW_ : BinOp → Int → Int → Option Int
  | .add, a, b => some (a + b)
  | .sub, a, b => some (a - b)
  | .mul, a, b => some (a * b)
  | _, _, _ => none
theorem V_ {op : BinOp} {t t' : TypeId} {x y : Operand} {k : IntKind} {m n r : Int} (hx : Fr.ev fr x = some (.int k m)) (hy : Fr.ev fr y = some (.int k n)) (hr : qW_ op m n = some r) (hw : k.wrap r = r) :
    Yld P N fr H Γ (.binOp op t x y t') ty (.int k r) :=
  fun a v h1 _ _ _ _ _ => by
    cases op <;> simp only [qW_, Option.some.injEq, reduceCtorEq] at hr <;> subst hr <;>
      simp [execOp, h1.ev hx, h1.ev hy, eqGuard, binOp, Op.intArith, hw]
theorem aq_ {r : Int} (h1 : -9223372036854775808 ≤ r) (h2 : r ≤ 9223372036854775807) : IntKind.wrap .i64 r = r := by
  exact IntWalk.i64_in r ⟨h1, h2⟩
theorem bG_ {x : Operand} {t : TypeId} {b : Bool} (hx : Fr.ev fr x = some (.bool b)) :
    Yld P N fr H Γ (.unOp .not t x) ty (.bool !b) :=
  fun a v h1 _ _ _ _ _ => by simp [execOp, h1.ev hx, Op.unary]
def lg : List Value → Nat → Option Value
  | [], _ => none
  | x :: _, 0 => some x
  | _ :: r, n + 1 => lg r n
theorem lg_eq : ∀ (c : List Value) (i : Nat), lg c i = c[i]?
  | [], i => by simp [lg]
  | x :: r, 0 => rfl
  | x :: r, n + 1 => by simpa [lg] using lg_eq r n
def lr_ : List Value → Nat → Nat → Option (List Value)
  | _, _, 0 => some []
  | c, off, n + 1 => match lg c off with
    | some x => match lr_ c (off + 1) n with
      | some r => some (x :: r)
      | none => none
    | none => none
theorem kQ_ : ∀ (n off : Nat) (c r : List Value), lr_ c off n = some r → r.length = n ∧ ∀ j v, r[j]? = some v → c[off + j]? = some v
  | 0, off, c, r, h => by simp only [lr_, Option.some.injEq] at h; subst h; exact ⟨rfl, by simp⟩
  | n + 1, off, c, r, h => by
    simp only [lr_] at h
    split at h
    · rename_i x hx
      split at h
      · rename_i q hq
        simp only [Option.some.injEq] at h; subst h
        obtain ⟨h1, h2⟩ := kQ_ n (off + 1) c q hq
        refine ⟨by simp [h1], fun j v hj => ?_⟩
        cases j with
        | zero => simp only [List.getElem?_cons_zero, Option.some.injEq] at hj; subst hj; rw [← lg_eq]; exact hx
        | succ j => rw [show off + (j + 1) = off + 1 + j by omega]; exact h2 j v (by simpa using hj)
      · cases h
    · cases h
theorem dE_ (b off n : Nat) : (⟨b, off, none⟩ : Addr).add n = ⟨b, off + n, none⟩ := by unfold Addr.add; split <;> simp_all
theorem dd_ {t : TypeId} {w : World} {ad : Addr} {x : Value} (ha : ∀ w, (isAgg t).run P w = .ok false w) (hc : w.cell? ad = some x) : (loadVar t ad).run P w = .ok x w := by
  simp [loadVar, ha, hc]
theorem de_ {t : TypeId} {w : World} {b off n : Nat} {cs : List Value} (ha : ∀ w, (isAgg t).run P w = .ok true w) (hs : ∀ w, (sizeOf t).run P w = .ok n w) (hn : cs.length = n)
    (hc : ∀ j v, cs[j]? = some v → w.cell? ⟨b, off + j, none⟩ = some v) : (loadVar t ⟨b, off, none⟩).run P w = .ok (.agg cs.toArray) w := by
  have := run_loadCells_list (P := P) w ⟨b, off, none⟩ cs (fun j v hj => by rw [dE_]; exact hc j v hj)
  rw [hn] at this
  simp [loadVar, ha, hs, this]
theorem eK_ {v : Vw} {i b : Nat} {cur : Array Value} {T : TypeId} {fz : Nat × Nat} (h : v.sat H) (hi : H[i]? = some (b, .cells cur T fz)) (j : Nat) : v.w.cell? ⟨b, j, none⟩ = cur.toList[j]? := by
  have := (h.own _ (List.mem_of_getElem? hi)).1
  simp [World.cell?, this]
theorem q_ {t : TypeId} {x : Operand} {b off : Nat} (i : Nat) {cur : Array Value} {T : TypeId} {fz : Nat × Nat} {u : Value} (ha : ∀ w, (isAgg t).run P w = .ok false w)
    (hx : Fr.ev fr x = some (.pointer (some ⟨b, off, none⟩))) (hi : H[i]? = some (b, .cells cur T fz)) (hu : lg cur.toList off = some u) :
    Yld P N fr H Γ (.load t x) ty (u) :=
  fun a v h1 h2 _ _ _ _ => by
    have := dd_ (P := P) (w := v.w) ha (show v.w.cell? ⟨b, off, none⟩ = some u by rw [eK_ h2 hi, ← lg_eq]; exact hu)
    simp [execOp, h1.ev hx, Instr.loadAt, Instr.sureAddr, this]
theorem L_ {t : TypeId} {x : Operand} {b off n : Nat} (i : Nat) {cur : Array Value} {T : TypeId} {fz : Nat × Nat} {us : List Value} (ha : ∀ w, (isAgg t).run P w = .ok true w) (hs : ∀ w, (sizeOf t).run P w = .ok n w)
    (hx : Fr.ev fr x = some (.pointer (some ⟨b, off, none⟩))) (hi : H[i]? = some (b, .cells cur T fz)) (hu : lr_ cur.toList off n = some us) :
    Yld P N fr H Γ (.load t x) ty (.agg us.toArray) :=
  fun a v h1 h2 _ _ _ _ => by
    obtain ⟨e1, e2⟩ := kQ_ n off _ _ hu
    have := de_ (P := P) (w := v.w) (b := b) (off := off) ha hs e1 (fun j y hj => by rw [eK_ h2 hi]; exact e2 j y hj)
    simp [execOp, h1.ev hx, Instr.loadAt, Instr.sureAddr, this]
theorem gY_ {t : TypeId} {x : Operand} {ad : Addr} {u : Value} (hx : Fr.ev fr x = some (.pointer (some ad))) (hu : ∀ v, v.sat H → aI_ Γ v → (loadVar t ad).run P v.w = .ok u v.w) :
    Yld P N fr H Γ (.load t x) ty (u) :=
  fun a v h1 h2 h4 _ _ _ => by simp [execOp, h1.ev hx, Instr.loadAt, Instr.sureAddr, hu v h2 h4]
theorem ja_ {v : Vw} {w' : World} {o : Obj} (h : v.sat H) (e0 : w'.heap = v.w.heap.push o) (e1 : w'.os = v.w.os) (e2 : w'.tape = v.w.tape) (e3 : w'.output = v.w.output) (ed : v.w.drawn ≤ w'.drawn) :
    (⟨v.im, w', v.sl⟩ : Vw).sat ((v.w.heap.size, o) :: H) ∧ v.to H ⟨v.im, w', v.sl⟩ ((v.w.heap.size, o) :: H) := by
  have hb : ∀ k, k < v.w.heap.size → w'.heap[k]? = v.w.heap[k]? := fun k hk => by rw [e0, Array.getElem?_push, if_neg (by omega)]
  have hlt : ∀ p, p ∈ H → p.1 < v.w.heap.size := fun p hp => (Array.getElem?_eq_some_iff.1 (h.own p hp).1).1
  refine ⟨⟨fun p hp => ?_, ?_, fun b hb' => ?_⟩, e1, e2, e3, by simp [e0], fun b h1 _ => hb b h1, fun _ h => h, fun _ h => .inl h, fun b hb' => ?_, rfl, .inr ed⟩
  · rcases List.mem_cons.1 hp with rfl | hp
    · refine ⟨by show w'.heap[v.w.heap.size]? = some o; rw [e0]; simp, fun hi => ?_⟩
      have := h.lt _ hi; simp at this
    · exact ⟨by show w'.heap[p.1]? = _; rw [hb _ (hlt p hp)]; exact (h.own p hp).1, (h.own p hp).2⟩
  · rw [List.map_cons, List.nodup_cons]
    refine ⟨fun hm => ?_, h.nodup⟩
    obtain ⟨p, hp, e⟩ := List.mem_map.1 hm
    have := hlt p hp
    simp at e; omega
  · have := h.lt b hb'
    show b < w'.heap.size
    simp [e0]; omega
  · rw [List.map_cons] at hb'
    rcases List.mem_cons.1 hb' with rfl | h1
    · exact .inr (Nat.le_refl _)
    · exact .inl h1
theorem jG_ {op : Op} {β : Type} {x : β → Nat → Value} {o : β → Obj} (q : β → Prop) (hN : Nat.blt d N = true)
    (he : ∀ a v, Fr.sat N fr a → v.sat H → aI_ Γ v → ∃ y w', q y ∧ (execOp a.eval ⟨some d, op, ty, ps, af, none⟩).run P v.w = .ok (.value (x y v.w.heap.size)) w' ∧ w'.heap = v.w.heap.push (o y) ∧ w'.os = v.w.os ∧ w'.tape = v.w.tape ∧ w'.output = v.w.output ∧ v.w.drawn ≤ w'.drawn)
    (hk : ∀ y b, q y → Ops P R N v0 H0 ops l K ((d, x y b) :: fr) ((b, o y) :: H) Γ) : Ops P R N v0 H0 ops (⟨some d, op, ty, ps, af, none⟩ :: l) K fr H Γ :=
  dF_ rfl fun a v h1 h2 h3 h4 => by
    obtain ⟨y, w', hq, hr, e0, e1, e2, e3, ed⟩ := he a v h1 h2 h4
    unfold Oper.wp
    rw [hr]
    obtain ⟨g1, g2⟩ := ja_ h2 e0 e1 e2 e3 ed
    exact hk y v.w.heap.size hq _ ⟨v.im, w', v.sl⟩ (h1.put hN) g1 (h3.trans g2) (bC_ (g2.le h2) h4)
theorem gi_ {op : Op} {x : Nat → Value} {o : Obj} (hN : Nat.blt d N = true)
    (he : ∀ a v, Fr.sat N fr a → v.sat H → aI_ Γ v → (execOp a.eval ⟨some d, op, ty, ps, af, none⟩).run P v.w = .ok (.value (x v.w.heap.size)) (v.w.alloc o))
    (hk : ∀ b, Ops P R N v0 H0 ops l K ((d, x b) :: fr) ((b, o) :: H) Γ) : Ops P R N v0 H0 ops (⟨some d, op, ty, ps, af, none⟩ :: l) K fr H Γ :=
  jG_ (β := Unit) (x := fun _ b => x b) (o := fun _ => o) (fun _ => True) hN (fun a v h1 h2 h4 => ⟨(), v.w.alloc o, trivial, he a v h1 h2 h4, rfl, rfl, rfl, rfl, Nat.le_refl _⟩) (fun _ b _ => hk b)
theorem aF_ {t : TypeId} {x : Operand} {u : Value} (hx : Fr.ev fr x = some u) (hN : Nat.blt d N = true)
    (hk : ∀ b, Ops P R N v0 H0 ops l K ((d, .pointer (some ⟨b, 0, none⟩)) :: fr) ((b, .cells u.cells t (0, 0)) :: H) Γ) : Ops P R N v0 H0 ops (⟨some d, .box t x, ty, ps, af, none⟩ :: l) K fr H Γ :=
  gi_ (x := fun b => .pointer (some ⟨b, 0, none⟩)) hN (fun a v h1 _ _ => by simp [execOp, h1.ev hx, Instr.box, newVar, newRow, newObj]; rfl) hk
theorem al_ {t : TypeId} {z : Value} (hz : ∀ w, (zeroValue t).run P w = .ok z w) (hN : Nat.blt d N = true)
    (hk : ∀ b, Ops P R N v0 H0 ops l K ((d, .pointer (some ⟨b, 0, none⟩)) :: fr) ((b, .cells z.cells t (0, 0)) :: H) Γ) : Ops P R N v0 H0 ops (⟨some d, .alloc t, ty, ps, af, none⟩ :: l) K fr H Γ :=
  gi_ (x := fun b => .pointer (some ⟨b, 0, none⟩)) hN (fun a v h1 _ _ => by simp [execOp, hz, Instr.alloc, newVar, newRow, newObj]; rfl) hk
theorem gf_ {v : Vw} {i b : Nat} {o o' : Obj} {w' : World} (h : v.sat H) (hi : H[i]? = some (b, o)) (e1 : w'.os = v.w.os) (e2 : w'.tape = v.w.tape) (e3 : w'.output = v.w.output) (ed : v.w.drawn ≤ w'.drawn) (e4 : w'.heap.size = v.w.heap.size)
    (e5 : w'.heap[b]? = some o') (e6 : ∀ k, k ≠ b → w'.heap[k]? = v.w.heap[k]?) : (⟨v.im, w', v.sl⟩ : Vw).sat (H.set i (b, o')) ∧ v.to H ⟨v.im, w', v.sl⟩ (H.set i (b, o')) := by
  have hm := List.mem_of_getElem? hi
  have hmap : (H.set i (b, o')).map Prod.fst = H.map Prod.fst := by
    rw [List.map_set]
    apply List.ext_getElem?
    intro j
    rw [List.getElem?_set]
    split
    · rename_i hj; subst hj; rw [List.getElem?_map, hi]; simp [(List.getElem?_eq_some_iff.1 hi).1]
    · rfl
  refine ⟨⟨fun p hp => ?_, by rw [hmap]; exact h.nodup, fun x hx => ?_⟩, e1, e2, e3, by simp [e4], fun x _ hn => e6 x (fun e => hn ?_), fun _ h => h, fun _ h => .inl h, fun x hx => .inl (by rw [hmap] at hx; exact hx), rfl, .inr ed⟩
  · obtain ⟨j, hj⟩ := List.getElem?_of_mem hp
    rw [List.getElem?_set] at hj
    split at hj
    · rename_i hij
      subst hij
      split at hj
      · simp only [Option.some.injEq] at hj; subst hj
        exact ⟨e5, (h.own _ hm).2⟩
      · cases hj
    · rename_i hij
      have hpH := List.mem_of_getElem? hj
      have hne : p.1 ≠ b := fun e => by
        have hnd := h.nodup
        have g1 : (H.map Prod.fst)[i]? = some b := by simp [hi]
        have g2 : (H.map Prod.fst)[j]? = some b := by simp [hj, e]
        obtain ⟨l1, q1⟩ := List.getElem?_eq_some_iff.1 g1
        obtain ⟨l2, q2⟩ := List.getElem?_eq_some_iff.1 g2
        exact hij ((List.getElem_inj hnd).1 (q1.trans q2.symm))
      exact ⟨by show w'.heap[p.1]? = _; rw [e6 _ hne]; exact (h.own p hpH).1, (h.own p hpH).2⟩
  · show x < w'.heap.size
    rw [e4]; exact h.lt x hx
  · subst e; exact List.mem_map.2 ⟨_, hm, rfl⟩
theorem Z_ {t : TypeId} {x y : Operand} {b off n : Nat} (i : Nat) {cur : Array Value} {T : TypeId} {u : Value} (hs : ∀ w, (sizeOf t).run P w = .ok n w)
    (hx : Fr.ev fr x = some (.pointer (some ⟨b, off, none⟩))) (hy : Fr.ev fr y = some u) (hi : H[i]? = some (b, .cells cur T (0, 0))) (hn : u.cells.size = n) (hf : Nat.ble (off + n) cur.size = true) (h1c : u.cells.toList.all Value.oneCell' = true)
    (hk : Ops P R N v0 H0 ops l K fr (H.set i (b, .cells (cur.toList.take off ++ u.cells.toList ++ cur.toList.drop (off + n)).toArray T (0, 0))) Γ) :
    Ops P R N v0 H0 ops (⟨none, .store t x y, ty, ps, af, none⟩ :: l) K fr H Γ :=
  dF_ rfl fun a v h1 h2 h3 h4 => by
    have hb := (h2.own _ (List.mem_of_getElem? hi)).1
    have hst := run_storeCells_at P b off T u.cells.toList 0 cur v.w hb (by simp [hn]; exact Nat.le_of_ble_eq_true hf) (fun c hc => List.all_eq_true.1 h1c c hc)
    have he : (execOp a.eval ⟨none, .store t x y, ty, ps, af, none⟩).run P v.w = .ok .skip (v.w.setRow b (cur.toList.take off ++ u.cells.toList ++ cur.toList.drop (off + n)).toArray) := by
      simp only [Nat.add_zero, Array.length_toList, hn] at hst
      simp [execOp, h1.ev hx, h1.ev hy, Instr.storeAt, Instr.sureAddr, storeVar, hs, hn, hst]
    unfold Oper.wp
    rw [he]
    obtain ⟨g1, g2⟩ := gf_ (w' := v.w.setRow b (cur.toList.take off ++ u.cells.toList ++ cur.toList.drop (off + n)).toArray) h2 hi rfl rfl rfl (Nat.le_refl _) (by simp) (setRow_heap _ _ _ _ _ _ hb) (fun k hk => setRow_other _ _ _ _ hk)
    exact hk a _ h1 g1 (h3.trans g2) (bC_ (g2.le h2) h4)
theorem j_ {s : TypeId} {x : Operand} {f b off o : Nat} {fs : Array Field} {fd : Field} {n : Nat} (hu : ∀ w, (underlying s).run P w = .ok (.struct fs) w) (hx : Fr.ev fr x = some (.pointer (some ⟨b, off, none⟩))) (hf : fs[f]? = some fd) (ho : fd.offset = o)
    (hs : ∀ w, (sizeOf fd.type).run P w = .ok (n + 1) w) :
    Yld P N fr H Γ (.fieldAddr s x f) ty (.pointer (some ⟨b, off + o, none⟩)) :=
  fun a v h1 h2 _ _ _ _ => by simp [execOp, h1.ev hx, Instr.fieldAt, hu, hf, Instr.sureAddr, fieldPlace, hs, dE_, ho]
theorem fF_ {t e : TypeId} {x y : Operand} {b off len cap n : Nat} {k : IntKind} {i : Int} (hu : ∀ w, (underlying t).run P w = .ok (.slice e) w) (hs : ∀ w, (sizeOf e).run P w = .ok n w)
    (hx : Fr.ev fr x = some (.slice (some ⟨b, off, none⟩) len cap)) (hy : Fr.ev fr y = some (.int k i)) (h0 : 0 ≤ i) (hl : i < len) :
    Yld P N fr H Γ (.indexAddr t x y) ty (.pointer (some ⟨b, off + i.toNat * n, none⟩)) :=
  fun a v h1 h2 _ _ _ _ => by simp [execOp, h1.ev hx, h1.ev hy, Instr.indexAt, hu, asIntOf, hs, dE_, h0, hl]
theorem ei_ {t e : TypeId} {x y : Operand} {b off len n : Nat} {k : IntKind} {i : Int} (hu : ∀ w, (underlying t).run P w = .ok (.array len e) w) (hs : ∀ w, (sizeOf e).run P w = .ok n w)
    (hx : Fr.ev fr x = some (.pointer (some ⟨b, off, none⟩))) (hy : Fr.ev fr y = some (.int k i)) (h0 : 0 ≤ i) (hl : i < len) :
    Yld P N fr H Γ (.indexAddr t x y) ty (.pointer (some ⟨b, off + i.toNat * n, none⟩)) :=
  fun a v h1 h2 _ _ _ _ => by simp [execOp, h1.ev hx, h1.ev hy, Instr.indexAt, hu, asIntOf, hs, Instr.sureAddr, dE_, h0, hl]
theorem af_ {x : Operand} {ad : Addr} (hx : Fr.ev fr x = some (.pointer (some ad))) :
    Yld P N fr H Γ (.nilCheck x) ty (.pointer (some ad)) :=
  fun a v h1 h2 _ _ _ _ => by simp [execOp, h1.ev hx]
theorem ah_ {x : Operand} {t e : TypeId} {ad : Option Addr} {len cap : Nat} (hu : ∀ w, (underlying t).run P w = .ok (.slice e) w) (hx : Fr.ev fr x = some (.slice ad len cap)) :
    Yld P N fr H Γ (.call ⟨.builtin .len, #[x], #[t]⟩) ty (.int .i64 (len : Int)) :=
  fun a v h1 h2 _ _ _ _ => by simp [execOp, resolve, invoke, builtin, Builtin.len_, h1.ev hx, hu, goInt]
theorem ae_ {x : Operand} {i : Nat} {vs : Array Value} {u : Value} (hx : Fr.ev fr x = some (.tuple vs)) (hu : lg vs.toList i = some u) :
    Yld P N fr H Γ (.extract x i) ty (u) :=
  fun a v h1 h2 _ _ _ _ => by
    rw [lg_eq, Array.getElem?_toList] at hu
    simp [execOp, h1.ev hx, Instr.extract, hu]
def str (l : List UInt8) : Value := .string ⟨l.toArray⟩
theorem str_of (s : ByteArray) : Value.string s = str s.data.toList := rfl
theorem bv_ {t t' : TypeId} {x y : Operand} {m n : List UInt8} (hx : Fr.ev fr x = some (str m)) (hy : Fr.ev fr y = some (str n)) :
    Yld P N fr H Γ (.binOp .eql t x y t') ty (.bool ((m == n))) :=
  fun a v h1 _ _ _ _ _ => by simp [execOp, h1.ev hx, h1.ev hy, str, eqGuard, binOp, Op.stringOp]
theorem eI_ {t t' : TypeId} {x y : Operand} {m n : List UInt8} (hx : Fr.ev fr x = some (str m)) (hy : Fr.ev fr y = some (str n)) :
    Yld P N fr H Γ (.binOp .neq t x y t') ty (.bool ((m != n))) :=
  fun a v h1 _ _ _ _ _ => by simp [execOp, h1.ev hx, h1.ev hy, str, eqGuard, binOp, Op.stringOp, bne]
theorem eH_ {t t' : TypeId} {x y : Operand} {m n : List UInt8} (hx : Fr.ev fr x = some (str m)) (hy : Fr.ev fr y = some (str n)) (hl : m.length + n.length ≤ 9223372036854775807) :
    Yld P N fr H Γ (.binOp .add t x y t') ty (str (m ++ n)) :=
  fun a v h1 _ _ _ _ _ => by
    have h := run_string_add_sum (P := P) v.w ⟨m.toArray⟩ ⟨n.toArray⟩ (by simpa [ByteArray.size] using hl)
    rw [ByteArray.mk_append_mk] at h
    simp [execOp, h1.ev hx, h1.ev hy, str, eqGuard, binOp_string_add, h]
theorem co_ {x : Operand} {t : TypeId} {m : List UInt8} (hu : ∀ w, (underlying t).run P w = .ok .string w) (hx : Fr.ev fr x = some (str m)) :
    Yld P N fr H Γ (.call ⟨.builtin .len, #[x], #[t]⟩) ty (.int .i64 (m.length : Int)) :=
  fun a v h1 h2 _ _ _ _ => by simp [execOp, resolve, invoke, builtin, Builtin.len_, h1.ev hx, hu, goInt, str]; rfl
theorem dM_ {x y : Operand} {t : TypeId} {m : List UInt8} {k : IntKind} {i : Int} {c : UInt8} (hu : ∀ w, (underlying t).run P w = .ok .string w) (hx : Fr.ev fr x = some (str m)) (hy : Fr.ev fr y = some (.int k i)) (h0 : 0 ≤ i) (hc : m[i.toNat]? = some c) :
    Yld P N fr H Γ (.index t x y) ty (.int .u8 (c.toNat : Int)) :=
  fun a v h1 h2 _ _ _ _ => by
    have hl : i.toNat < m.length := (List.getElem?_eq_some_iff.1 hc).1
    have hg : (⟨m.toArray⟩ : ByteArray)[i.toNat]? = some c := by
      rw [ByteArray.getElem?_lt' _ _ (by simpa [ByteArray.size] using hl)]
      have : (⟨m.toArray⟩ : ByteArray)[i.toNat]'(by simpa [ByteArray.size] using hl) = m[i.toNat] := rfl
      rw [this]; rw [List.getElem?_eq_getElem hl] at hc; exact hc
    simp [execOp, Instr.index, h1.ev hx, h1.ev hy, asIntOf, hu, str, h0, hg]
def fZ_ (P : Program) (f : FuncId) : Prop := ∀ args w, (callFunc f args).run P w = .ok (.enter f args) w
theorem callable {f : FuncId} {fn : Func} {c : Code} (hf : P.funcs[f]? = some fn) (hb : fn.body = some c) (hn : (fn.name == "runtime.NumGoroutine") = false) : fZ_ P f := by
  intro args w
  have hn' : ¬ fn.name = "runtime.NumGoroutine" := by simpa using hn
  simp [callFunc, run_program, hf, hb, hn']
structure Tri (P : Program) (f : FuncId) (args : Array Value) (H : Hp) (Γ : List Fct) {ι : Type} (ret : ι → Value) (H' : ι → Hp) (Γ' : ι → List Fct) : Prop where
  callable : fZ_ P f
  run : ∀ v, v.sat H → aI_ Γ v → Calls P f args v.w fun e w' => ∃ x v', e = .returned (ret x) ∧ v'.w = w' ∧ v'.sat (H' x) ∧ aI_ (Γ' x) v' ∧ v.to H v' (H' x)
def Fr.evs (fr : Fr) : List Operand → Option (List Value)
  | [] => some []
  | x :: r => match Fr.ev fr x with
    | some v => match Fr.evs fr r with
      | some vs => some (v :: vs)
      | none => none
    | none => none
theorem Fr.sat.evs {a : Act} (h : Fr.sat N fr a) : ∀ {xs : List Operand} {vs : List Value}, Fr.evs fr xs = some vs → xs.map a.eval = vs
  | [], vs, e => by simp only [Fr.evs, Option.some.injEq] at e; subst e; rfl
  | x :: r, vs, e => by
    simp only [Fr.evs] at e
    split at e
    · rename_i u hu
      split at e
      · rename_i us hus
        simp only [Option.some.injEq] at e; subst e
        rw [List.map_cons, h.ev hu, h.evs hus]
      · cases e
    · cases e
theorem kM_ {op : Op} {f : FuncId} {vs : List Value} {ι : Type} {Hc F : Hp} {Γc : List Fct} {ret : ι → Value} {H' : ι → Hp} {Γ' : ι → List Fct}
    (hT : Tri P f vs.toArray Hc Γc ret H' Γ') (he : ∀ a v, Fr.sat N fr a → (execOp a.eval ⟨some d, op, ty, ps, af, none⟩).run P v = .ok (.enter f vs.toArray) v)
    (hH : H.Perm (Hc ++ F)) (hΓ : ∀ v, v.sat H → aI_ Γ v → aI_ Γc v) (hN : Nat.blt d N = true)
    (hk : ∀ x, Ops P R N v0 H0 ops l K ((d, ret x) :: fr) (H' x ++ F) (Γ' x ++ Γ)) : Ops P R N v0 H0 ops (⟨some d, op, ty, ps, af, none⟩ :: l) K fr H Γ :=
  dF_ rfl fun a v h1 h2 h3 h4 => by
    unfold Oper.wp
    rw [he a v.w h1]
    have h2' := h2.perm hH
    refine (hT.run v h2'.sub (hΓ v h2 h4)).mono ?_
    rintro e w' ⟨x, v', rfl, rfl, g1, g2, g3⟩
    obtain ⟨k1, k2⟩ := g3.frame h2' g1
    exact hk x _ v' (h1.put hN) k1 (h3.trans (k2.permL hH.symm)) (eX_.2 ⟨g2, bC_ (k2.le h2') h4⟩)
theorem Q_ {f : FuncId} {xs : List Operand} {ats : Array TypeId} {vs : List Value} {ι : Type} {Hc F : Hp} {Γc : List Fct} {ret : ι → Value} {H' : ι → Hp} {Γ' : ι → List Fct}
    (hT : Tri P f vs.toArray Hc Γc ret H' Γ') (hx : Fr.evs fr xs = some vs) (hH : H.Perm (Hc ++ F)) (hΓ : ∀ v, v.sat H → aI_ Γ v → aI_ Γc v) (hN : Nat.blt d N = true)
    (hk : ∀ x, Ops P R N v0 H0 ops l K ((d, ret x) :: fr) (H' x ++ F) (Γ' x ++ Γ)) :
    Ops P R N v0 H0 ops (⟨some d, .call ⟨.value (.func f), xs.toArray, ats⟩, ty, ps, af, none⟩ :: l) K fr H Γ :=
  kM_ hT (fun a w h1 => by
    have := h1.evs hx
    simp [execOp, resolve, Deferred.ofValue, Act.eval, invoke, this, hT.callable _ w]) hH hΓ hN hk
theorem ax_ {f : FuncId} {xs : List Operand} {ats : Array TypeId} {vs : List Value} {Hc F : Hp} {Γc : List Fct} {X : Bool}
    (hT : Tri P f vs.toArray Hc Γc (fun _ : Unit => .bool X) (fun _ => Hc) (fun _ => [])) (hx : Fr.evs fr xs = some vs) (hH : H.Perm (Hc ++ F)) (hΓ : ∀ v, v.sat H → aI_ Γ v → aI_ Γc v) (hN : Nat.blt d N = true)
    (hk : ∀ r : Bool, X = r → Ops P R N v0 H0 ops l K ((d, .bool r) :: fr) (Hc ++ F) Γ) :
    Ops P R N v0 H0 ops (⟨some d, .call ⟨.value (.func f), xs.toArray, ats⟩, ty, ps, af, none⟩ :: l) K fr H Γ :=
  Q_ hT hx hH hΓ hN fun _ => hk X rfl
end ops
section body
variable {P : Program} {N : Nat} {fr : Fr} {H : Hp} {Γ : List Fct}
def iZ_ {ι : Type} (v0 : Vw) (H0 : Hp) (ret : ι → Value) (H' : ι → Hp) (Γ' : ι → List Fct) (e : Ending) (w' : World) : Prop :=
  ∃ x v', e = .returned (ret x) ∧ v'.w = w' ∧ v'.sat (H' x) ∧ aI_ (Γ' x) v' ∧ v0.to H0 v' (H' x)
def iA_ (i : Nat) : List Value → Fr
  | [] => []
  | x :: r => (i, x) :: iA_ (i + 1) r
theorem hB_ : ∀ (l : List Value) (i t : Nat) (v : Value), Fr.get (iA_ i l) t = some v → i ≤ t ∧ l[t - i]? = some v
  | [], i, t, v, h => by simp [iA_, Fr.get] at h
  | x :: r, i, t, v, h => by
    simp only [iA_, Fr.get] at h
    by_cases e : i = t
    · subst e
      simp only [Nat.beq_refl, cond_true, Option.some.injEq] at h
      subst h; simp
    · have hb : Nat.beq i t = false := by
        cases hb : Nat.beq i t
        · rfl
        · exact absurd (Nat.eq_of_beq_eq_true hb) e
      rw [hb, cond_false] at h
      obtain ⟨h1, h2⟩ := hB_ r (i + 1) t v h
      refine ⟨by omega, ?_⟩
      rw [show t - i = (t - (i + 1)) + 1 by omega]; simpa using h2
theorem M_ {f : FuncId} {fn : Func} {c : Code} {args : List Value} {ι : Type} {ret : ι → Value} {H' : ι → Hp} {Γ' : ι → List Fct}
    (hf : P.funcs[f]? = some fn) (hb : fn.body = some c) (hn : (fn.name == "runtime.NumGoroutine") = false) (hN : fn.ntmps = N) (hl : Nat.ble args.length N = true)
    (h : ∀ v0, Run P (bodyPost P fn (iZ_ v0 H ret H' Γ')) N v0 H c [] (iA_ 0 args) H Γ) : Tri P f args.toArray H Γ ret H' Γ' := by
  refine ⟨callable hf hb hn, fun v h1 h2 => calls_of_wp hf hb ?_⟩
  have hl' : args.length ≤ N := Nat.le_of_ble_eq_true hl
  have := h v ⟨args.toArray ++ Array.replicate (fn.ntmps - args.toArray.size) undef, []⟩ v ⟨by simp [hN]; omega, rfl, fun t x ht => ?_⟩ h1 (Vw.to.refl _ _) h2
  · exact this
  · obtain ⟨_, h4⟩ := hB_ args 0 t x ht
    simp only [Nat.sub_zero] at h4
    have hlt := (List.getElem?_eq_some_iff.1 h4).1
    rw [Array.getElem?_append_left (by simpa using hlt)]
    simpa using h4
theorem as_ {fn : Func} {t : Nat} {ι : Type} {v0 : Vw} {H0 F : Hp} {ret : ι → Value} {H' : ι → Hp} {Γ' : ι → List Fct} (hr : fn.results = #[.tmp t]) (x : ι) (hx : Fr.get fr t = some (ret x)) (hH : H.Perm (H' x ++ F))
    (hΓ : ∀ v, v.sat H → aI_ Γ v → aI_ (Γ' x) v) : Ok N v0 H0 (bodyPost P fn (iZ_ v0 H0 ret H' Γ') .ret) fr H Γ :=
  ew_ hH hΓ fun a v h1 h2 h3 h4 => ⟨h1.defers, ret x, by rw [results_tmp hr]; have := h1.val t _ hx; simp [this], x, v, rfl, rfl, h2, h4, h3⟩
theorem pe_ {fn : Func} {t s : Nat} {ι : Type} {v0 : Vw} {H0 F : Hp} {ret : ι → Value} {H' : ι → Hp} {Γ' : ι → List Fct} {u1 u2 : Value} (hr : fn.results = #[.tmp t, .tmp s]) (x : ι) (h1x : Fr.get fr t = some u1) (h2x : Fr.get fr s = some u2) (hx : .tuple #[u1, u2] = ret x) (hH : H.Perm (H' x ++ F))
    (hΓ : ∀ v, v.sat H → aI_ Γ v → aI_ (Γ' x) v) : Ok N v0 H0 (bodyPost P fn (iZ_ v0 H0 ret H' Γ') .ret) fr H Γ :=
  ew_ hH hΓ fun a v h1 h2 h3 h4 => ⟨h1.defers, ret x, by rw [results_tmp2 hr, ← hx]; have e1 := h1.val t _ h1x; have e2 := h1.val s _ h2x; simp [e1, e2], x, v, rfl, rfl, h2, h4, h3⟩
theorem E_ {t : Nat} {x y : Bool} (h : Fr.get fr t = some (.bool x)) (e : x = y) : Fr.get fr t = some (.bool y) := e ▸ h
theorem aJ_ {t : Nat} {k : IntKind} {x y : Int} (h : Fr.get fr t = some (.int k x)) (e : x = y) : Fr.get fr t = some (.int k y) := e ▸ h
theorem dL_ {t : Nat} {x y : List UInt8} (h : Fr.get fr t = some (str x)) (e : x = y) : Fr.get fr t = some (str y) := e ▸ h
theorem gn_ {t : Nat} {x y : Value} (h : Fr.get fr t = some x) (e : x = y) : Fr.get fr t = some y := e ▸ h
abbrev Fn0 (P : Program) (f : FuncId) (args : Array Value) (ret : Value) : Prop := Tri P f args [] [] (fun _ : Unit => ret) (fun _ => []) (fun _ => [])
end body
section cut
variable {P : Program} {N : Nat} {v0 : Vw} {H0 : Hp} {R : Exit → Act → World → Prop} {K : List Kt} {fr : Fr} {H : Hp} {Γ : List Fct}
def Mid (N : Nat) (v0 : Vw) (H0 : Hp) {ι : Type} (frs : ι → Fr) (Hs : ι → Hp) (Γs : ι → List Fct) (e : Exit) (a : Act) (w : World) : Prop :=
  e = .normal ∧ ∃ i v, v.w = w ∧ Fr.sat N (frs i) a ∧ v.sat (Hs i) ∧ v0.to H0 v (Hs i) ∧ aI_ (Γs i) v
theorem qG_ {ι : Type} {frs : ι → Fr} {Hs : ι → Hp} {Γs : ι → List Fct} (i : ι) {F : Hp} (hfr : Fr.le (frs i) fr) (hH : H.Perm (Hs i ++ F)) (hΓ : ∀ v, v.sat H → aI_ Γ v → aI_ (Γs i) v) :
    Ok N v0 H0 (Mid N v0 H0 frs Hs Γs .normal) fr H Γ :=
  bS_ (frs i) hfr (ew_ hH hΓ fun _ v h1 h2 h3 h4 => ⟨rfl, i, v, rfl, h1, h2, h3, h4⟩)
end cut
end Go.Sx
namespace Go.Sx
open Go
def ca_ (v : Vw) (ad : Option Addr) (cs : List Value) : Prop :=
  cs = [] ∨ ∃ b off arr T fz, ad = some ⟨b, off, none⟩ ∧ v.im b ∧ v.w.heap[b]? = some (.cells arr T fz) ∧ ∀ j x, cs[j]? = some x → arr[off + j]? = some x
def aS_ (ad : Option Addr) (cs : List Value) : Fct where
  p := fun v => ca_ v ad cs
  mono := fun v v' h hp => by
    rcases hp with hp | ⟨b, off, arr, T, fz, h1, h2, h3, h4⟩
    · exact .inl hp
    · exact .inr ⟨b, off, arr, T, fz, h1, h.imUp b h2, by rw [h.block b h2]; exact h3, h4⟩
def bas (ad : Option Addr) : Addr := ad.getD ⟨0, 0, none⟩
def rad (ad : Option Addr) (k : Nat) : Addr := ⟨(bas ad).block, (bas ad).off + k, none⟩
theorem ca_.addr {v : Vw} {ad : Option Addr} {cs : List Value} (h : ca_ v ad cs) (hn : cs ≠ []) : ∃ b off, ad = some ⟨b, off, none⟩ := by
  rcases h with h | ⟨b, off, arr, T, fz, h1, _⟩
  · exact absurd h hn
  · exact ⟨b, off, h1⟩
theorem ca_.cell {v : Vw} {ad : Option Addr} {cs : List Value} {k : Nat} {x : Value} (h : ca_ v ad cs) (hx : cs[k]? = some x) : v.w.cell? (rad ad k) = some x := by
  rcases h with h | ⟨b, off, arr, T, fz, rfl, _, h3, h4⟩
  · subst h; simp at hx
  · simp [rad, bas, World.cell?, h3, h4 k x hx]
theorem ca_.drop {v : Vw} {ad : Option Addr} {cs : List Value} (h : ca_ v ad cs) (n : Nat) (ds : List Value) (hs : ∀ j x, ds[j]? = some x → cs[n + j]? = some x) : ca_ v (ad.map (·.add n)) ds := by
  rcases h with h | ⟨b, off, arr, T, fz, rfl, h2, h3, h4⟩
  · subst h
    left
    cases ds with
    | nil => rfl
    | cons d ds => have := hs 0 d rfl; simp at this
  · exact .inr ⟨b, off + n, arr, T, fz, by simp [dE_], h2, h3, fun j x hj => by rw [Nat.add_assoc]; exact h4 _ _ (hs j x hj)⟩
theorem ca_.part {v : Vw} {ad : Option Addr} {cs ds : List Value} (h : ca_ v ad cs) (hs : ∀ (j : Nat) x, ds[j]? = some x → cs[j]? = some x) : ca_ v ad ds := by
  rcases h with h | ⟨b, off, arr, T, fz, rfl, h2, h3, h4⟩
  · subst h
    left
    cases ds with
    | nil => rfl
    | cons d ds => have := hs 0 d rfl; simp at this
  · exact .inr ⟨b, off, arr, T, fz, rfl, h2, h3, fun j x hj => h4 j x (hs j x hj)⟩
theorem iB_ {α : Type} (f : α → List Value) (n : Nat) (hf : ∀ x, (f x).length = n) : ∀ (l : List α) (i j : Nat) (x : α), l[i]? = some x → j < n → (l.flatMap f)[i * n + j]? = (f x)[j]?
  | [], i, j, x, h, _ => by simp at h
  | y :: l, 0, j, x, h, hj => by
    simp only [List.getElem?_cons_zero, Option.some.injEq] at h
    subst h
    simp only [List.flatMap_cons, Nat.zero_mul, Nat.zero_add]
    rw [List.getElem?_append_left (by rw [hf]; exact hj)]
  | y :: l, i + 1, j, x, h, hj => by
    simp only [List.flatMap_cons]
    rw [List.getElem?_append_right (by rw [hf, Nat.add_mul]; omega), hf, show (i + 1) * n + j - n = i * n + j by rw [Nat.add_mul]; omega]
    exact iB_ f n hf l i j x (by simpa using h) hj
theorem ea_ {α : Type} (f : α → List Value) (n : Nat) (hf : ∀ x, (f x).length = n) : ∀ (l : List α), (l.flatMap f).length = l.length * n
  | [] => by simp
  | y :: l => by simp only [List.flatMap_cons, List.length_append, hf, List.length_cons, ea_ f n hf l, Nat.add_mul]; omega
section ops
variable {P : Program} {N : Nat} {v0 : Vw} {H0 : Hp} {R : Exit → Act → World → Prop} {K : List Kt} {fr : Fr} {H : Hp} {Γ : List Fct}
variable {ops : Array Oper} {l : List Oper} {d : Nat} {ty : TypeId} {ps : String} {af : Array Edge}
theorem ak_ {t e : TypeId} {x y : Operand} {ad : Option Addr} {len cap n : Nat} {k : IntKind} {i : Int} (hu : ∀ w, (underlying t).run P w = .ok (.slice e) w) (hs : ∀ w, (sizeOf e).run P w = .ok n w)
    (hx : Fr.ev fr x = some (.slice ad len cap)) (hy : Fr.ev fr y = some (.int k i)) (ha : ∀ v, v.sat H → aI_ Γ v → ∃ b off, ad = some ⟨b, off, none⟩) (h0 : 0 ≤ i) (hl : i < len) :
    Yld P N fr H Γ (.indexAddr t x y) ty (.pointer (some (rad ad (i.toNat * n)))) :=
  fun a v h1 h2 h4 _ _ _ => by
    obtain ⟨b, off, rfl⟩ := ha v h2 h4
    simp [execOp, h1.ev hx, h1.ev hy, Instr.indexAt, hu, asIntOf, hs, dE_, h0, hl, rad, bas]
theorem bH_ {t : TypeId} {x : Operand} {ad : Option Addr} {k : Nat} {cs : List Value} {u : Value} (ha : ∀ w, (isAgg t).run P w = .ok false w) (hx : Fr.ev fr x = some (.pointer (some (rad ad k))))
    (hr : ∀ v, v.sat H → aI_ Γ v → ca_ v ad cs) (hu : cs[k]? = some u) : Yld P N fr H Γ (.load t x) ty u :=
  gY_ hx (fun v h2 h4 => dd_ ha ((hr v h2 h4).cell hu))
theorem aE_ {t : TypeId} {x : Operand} {ad : Option Addr} {k n : Nat} {cs us : List Value} (ha : ∀ w, (isAgg t).run P w = .ok true w) (hs : ∀ w, (sizeOf t).run P w = .ok n w) (hx : Fr.ev fr x = some (.pointer (some (rad ad k))))
    (hr : ∀ v, v.sat H → aI_ Γ v → ca_ v ad cs) (hn : us.length = n) (hu : ∀ j y, us[j]? = some y → cs[k + j]? = some y) : Yld P N fr H Γ (.load t x) ty (.agg us.toArray) :=
  gY_ hx (fun v h2 h4 => de_ ha hs hn (fun j y hj => by
    have := (hr v h2 h4).cell (hu j y hj)
    simpa [rad, Nat.add_assoc] using this))
theorem gl_ {k : Act → World → Prop} {b : Nat} {o : Obj} {F : Hp} (f : Fct) (hH : H.Perm ((b, o) :: F)) (hf : ∀ v : Vw, v.im b → v.w.heap[b]? = some o → aI_ Γ v → f.p v) (h : Ok N v0 H0 k fr F (f :: Γ)) : Ok N v0 H0 k fr H Γ := by
  intro a v h1 h2 h3 h4
  have g := h2.perm hH
  have hb := g.own (b, o) (List.mem_cons_self)
  have hlt : b < v.w.heap.size := (Array.getElem?_eq_some_iff.1 hb.1).1
  have hnd := g.nodup
  rw [List.map_cons, List.nodup_cons] at hnd
  have hle : v.le ⟨fun x => v.im x ∨ x = b, v.w, v.sl⟩ := ⟨fun x hx => .inl hx, fun _ _ => rfl, rfl⟩
  have hmem : b ∈ H.map Prod.fst := (hH.map Prod.fst).mem_iff.2 (by simp)
  refine h a ⟨fun x => v.im x ∨ x = b, v.w, v.sl⟩ h1 ⟨fun p hp => ⟨(g.own p (List.mem_cons_of_mem _ hp)).1, fun hi => ?_⟩, hnd.2, fun x hx => ?_⟩ ?_ ⟨hf _ (.inr rfl) hb.1 (bC_ hle h4), bC_ hle h4⟩
  · rcases hi with hi | hi
    · exact (g.own p (List.mem_cons_of_mem _ hp)).2 hi
    · exact hnd.1 (by have := List.mem_map_of_mem (f := Prod.fst) hp; rw [hi] at this; exact this)
  · rcases hx with hx | hx
    · exact h2.lt x hx
    · exact hx ▸ hlt
  · refine ⟨h3.os, h3.tape, h3.output, h3.size, h3.block, fun x hx => .inl (h3.imUp x hx), fun x hx => ?_, fun x hx => h3.hNew x ((hH.map Prod.fst).mem_iff.2 (by rw [List.map_cons]; exact List.mem_cons_of_mem _ hx)), h3.sl, h3.dr⟩
    rcases hx with hx | hx
    · exact h3.imNew x hx
    · exact .inr (hx ▸ h3.hNew b hmem)
def bk_ (e : TypeId) (sz : Nat) (sv : Value) (n : Nat) (xs : List Value) (Hr : Hp) : Prop :=
  xs.length = n * sz ∧ ((sv = .slice none 0 0 ∧ n = 0 ∧ Hr = []) ∨
    ∃ g cap cur, sv = .slice (some ⟨g, 0, none⟩) n cap ∧ Hr = [(g, .cells cur e (0, 0))] ∧ n ≤ cap ∧ cap ≤ maxLen ∧ cur.size = cap * sz ∧ cur.toList.take (n * sz) = xs)
theorem bk_.nil (e : TypeId) (sz : Nat) : bk_ e sz (.slice none 0 0) 0 [] [] := ⟨by simp, .inl ⟨rfl, rfl, rfl⟩⟩
theorem bk_.owns {e : TypeId} {sz n : Nat} {sv : Value} {xs : List Value} {Hr F : Hp} {v : Vw} (h : bk_ e sz sv n xs Hr) (hs : v.sat (Hr ++ F)) : v.w.ownsRow 0 e sz sv n xs := by
  refine ⟨h.1, ?_⟩
  rcases h.2 with ⟨h1, h2, _⟩ | ⟨g, cap, cur, h1, rfl, h3, h4, h5, h6⟩
  · exact .inl ⟨h1, h2⟩
  · exact .inr ⟨g, cap, cur, h1, Nat.zero_le _, (hs.own (g, .cells cur e (0, 0)) (by simp)).1, h3, h4, h5, h6⟩
theorem pG_ {e : TypeId} {sz n n' : Nat} {sv sv' : Value} {xs ys : List Value} {Hr F : Hp} {v : Vw} {w' : World} (h : bk_ e sz sv n xs Hr) (hs : v.sat (Hr ++ F)) (ho : w'.ownsRow 0 e sz sv' n' ys) (hg : v.w.grownBy w' sv.ownBlock) (hd : v.w.drawn ≤ w'.drawn)
    (hsame : ∀ g, sv'.ownBlock = some g → sv.ownBlock = some g ∨ v.w.heap.size ≤ g) :
    ∃ Hr', bk_ e sz sv' n' ys Hr' ∧ (⟨v.im, w', v.sl⟩ : Vw).sat (Hr' ++ F) ∧ v.to (Hr ++ F) ⟨v.im, w', v.sl⟩ (Hr' ++ F) := by
  have hlt : ∀ p, p ∈ Hr ++ F → p.1 < v.w.heap.size := fun p hp => (Array.getElem?_eq_some_iff.1 (hs.own p hp).1).1
  have hrow : ∀ b, sv.ownBlock = some b → b ∈ Hr.map Prod.fst := fun b hb => by
    rcases h.2 with ⟨rfl, _, _⟩ | ⟨g, cap, cur, rfl, rfl, _⟩
    · simp [Value.ownBlock] at hb
    · simp [Value.ownBlock] at hb; simp [hb]
  have hnd := hs.nodup
  rw [List.map_append, List.nodup_append] at hnd
  have hF : ∀ p, p ∈ F → some p.1 ≠ sv.ownBlock := fun p hp e => hnd.2.2 _ (hrow p.1 e.symm) _ (List.mem_map_of_mem hp) rfl
  have hFold : ∀ p, p ∈ F → w'.heap[p.1]? = some p.2 ∧ ¬ v.im p.1 := fun p hp => by
    have := hs.own p (List.mem_append_right _ hp)
    exact ⟨by rw [hg.block _ (hlt p (List.mem_append_right _ hp)) (hF p hp)]; exact this.1, this.2⟩
  have hto : ∀ Hr' : Hp, (∀ b, b ∈ Hr'.map Prod.fst → b ∈ Hr.map Prod.fst ∨ v.w.heap.size ≤ b) → v.to (Hr ++ F) ⟨v.im, w', v.sl⟩ (Hr' ++ F) := fun Hr' hh => by
    refine ⟨hg.os, hg.tape, hg.output, hg.size, fun b hb hn => hg.block b hb (fun e => hn ?_), fun _ h => h, fun _ h => .inl h, fun b hb => ?_, rfl, .inr hd⟩
    · rw [List.map_append]; exact List.mem_append_left _ (hrow b e.symm)
    · rw [List.map_append] at hb ⊢
      rcases List.mem_append.1 hb with h1 | h1
      · exact (hh b h1).imp (List.mem_append_left _) id
      · exact .inl (List.mem_append_right _ h1)
  rcases ho.2 with ⟨h1, h2⟩ | ⟨g, cap, cur, h1, _, h3, h4, h5, h6, h7⟩
  · refine ⟨[], ⟨ho.1, .inl ⟨h1, h2, rfl⟩⟩, ⟨fun p hp => hFold p (by simpa using hp), by simpa using hnd.2.1, fun b hb => Nat.lt_of_lt_of_le (hs.lt b hb) hg.size⟩, hto [] (by simp)⟩
  · have hgn : g ∈ Hr.map Prod.fst ∨ v.w.heap.size ≤ g := (hsame g (by rw [h1]; rfl)).imp (hrow g) id
    refine ⟨[(g, .cells cur e (0, 0))], ⟨ho.1, .inr ⟨g, cap, cur, h1, rfl, h4, h5, h6, h7⟩⟩, ⟨fun p hp => ?_, ?_, fun b hb => Nat.lt_of_lt_of_le (hs.lt b hb) hg.size⟩, hto _ (by simpa using hgn)⟩
    · rcases List.mem_append.1 hp with hp | hp
      · simp only [List.mem_singleton] at hp
        subst hp
        refine ⟨h3, fun hi => ?_⟩
        rcases hgn with hgn | hgn
        · obtain ⟨q, hq, rfl⟩ := List.mem_map.1 hgn
          exact (hs.own q (List.mem_append_left _ hq)).2 hi
        · have := hs.lt _ hi; omega
      · exact hFold p hp
    · simp only [List.map_append, List.map_cons, List.map_nil, List.singleton_append, List.nodup_cons]
      refine ⟨fun hm => ?_, hnd.2.1⟩
      obtain ⟨q, hq, e⟩ := List.mem_map.1 hm
      rcases hgn with hgn | hgn
      · exact hnd.2.2 _ hgn _ (List.mem_map_of_mem hq) e.symm
      · have := hlt q (List.mem_append_right _ hq); omega
theorem lS_ (w : World) {t ty' e : TypeId} {i : TypeInfo} {z : Value} {n m c sz : Nat} {sv v' : Value} {w' : World} {xs news : List Value} {ad : Addr} (ht : P.underlying t = some (.slice e)) (hi : P.info? e = some i) (hz : i.zero = some z)
    (hsz : i.size = sz) (hown : w.ownsRow 0 e sz sv n xs) (hl : news.length = m * sz) (hnews : ∀ j u, news[j]? = some u → w.cell? (ad.add j) = some u) (h1 : ∀ u ∈ news, u.oneCell' = true) (h63 : n + m ≤ maxLen) (hb : (n + m) * i.bytes ≤ 140737488355328)
    (hr : (Builtin.append_ #[t, t] ty' #[sv, .slice (some ad) m c]).run P w = .ok v' w') : w.drawn ≤ w'.drawn ∧ ∀ g, v'.ownBlock = some g → sv.ownBlock = some g ∨ w.heap.size ≤ g := by
  subst hsz
  have hsmall : n + m ≤ 9223372036854775807 := by simp only [maxLen] at h63; omega
  rcases hown.2 with ⟨rfl, rfl⟩ | ⟨b, cap, cur, rfl, _, hgg, hnc, _, hcs, htake⟩
  · by_cases hm : m = 0
    · subst hm
      have hn : news = [] := List.eq_nil_of_length_eq_zero (by simpa using hl)
      subst hn
      have : (Builtin.append_ #[t, t] ty' #[.slice none 0 0, .slice (some ad) 0 c]).run P w = .ok (.slice none 0 0) w := by
        simp [Builtin.append_, run_underlying ht, sizeOf, typeInfo, hi, Builtin.lenOf, Builtin.firstCells, loadCells, loadCellsFrom]
      rw [this] at hr
      cases hr
      exact ⟨Nat.le_refl _, fun g hg => by simp [Value.ownBlock] at hg⟩
    · have := run_append_nil (P := P) w t ty' e i z ht hi hz ad m c news hl hnews (by omega) (by omega) (by simp only [Nat.zero_add] at hb; omega)
      rw [this] at hr
      cases hr
      refine ⟨by simp, fun g hg => ?_⟩
      simp only [Value.ownBlock, Option.some.injEq] at hg
      exact .inr (by omega)
  · by_cases hroom : n + m ≤ cap
    · have hfit : n * i.size + news.length ≤ cur.size := by rw [hl, hcs, ← Nat.add_mul]; exact Nat.mul_le_mul_right _ hroom
      have := run_append_room (P := P) w t ty' e i ht hi b n cap cur hgg ad m c news hl hnews h1 hroom hfit
      rw [this] at hr
      cases hr
      exact ⟨by simp, fun g hg => .inl hg⟩
    · have aI_ : ∀ j u, xs[j]? = some u → w.cell? ((⟨b, 0, none⟩ : Addr).add j) = some u := hown.cells (g := b) rfl
      have := run_append_grow (P := P) w t ty' e i z ht hi hz ⟨b, 0, none⟩ n cap xs hown.1 aI_ ad m c news hl hnews (by omega) (by omega) (growslice_fits (by omega) hb)
      rw [this] at hr
      cases hr
      refine ⟨by simp, fun g hg => ?_⟩
      simp only [Value.ownBlock, Option.some.injEq] at hg
      exact .inr (by omega)
structure Elt (P : Program) (t e : TypeId) (sz by' : Nat) : Prop where
  und : P.underlying t = some (.slice e)
  info : ∃ i z, P.info? e = some i ∧ i.zero = some z ∧ i.size = sz ∧ i.bytes = by' ∧ z.cells.size = sz
  pos : 0 < sz
theorem bd_ {x y : Operand} {t e : TypeId} {sz by' n m c : Nat} {sv : Value} {xs news : List Value} {Hr F : Hp} {ad : Addr} (he : Elt P t e sz by') (hrow : bk_ e sz sv n xs Hr)
    (hx : Fr.ev fr x = some sv) (hy : Fr.ev fr y = some (.slice (some ad) m c)) (hH : H.Perm (Hr ++ F)) (hl : news.length = m * sz) (hnews : ∀ v, v.sat H → aI_ Γ v → ∀ j u, news[j]? = some u → v.w.cell? (ad.add j) = some u) (h1c : ∀ u ∈ news, u.oneCell' = true)
    (h63 : n + m ≤ maxLen) (hb : (n + m) * by' ≤ 140737488355328) (hN : Nat.blt d N = true)
    (hk : ∀ sv' Hr', bk_ e sz sv' (n + m) (xs ++ news) Hr' → Ops P R N v0 H0 ops l K ((d, sv') :: fr) (Hr' ++ F) Γ) :
    Ops P R N v0 H0 ops (⟨some d, .call ⟨.builtin .append, #[x, y], #[t, t]⟩, ty, ps, af, none⟩ :: l) K fr H Γ :=
  dF_ rfl fun a v h1 h2 h3 h4 => by
    obtain ⟨i, z, hi, hz, es, eb, ez⟩ := he.info
    have g := h2.perm hH
    have hn := hnews v h2 h4
    have ho := hrow.owns g
    obtain ⟨v', w', hr, q1, q2, _⟩ := run_append_own (P := P) v.w 0 t ty e i z sz by' he.und hi hz es eb ez he.pos sv n xs ho ad m c news hl hn h1c h63 hb (Nat.zero_le _)
    obtain ⟨a1, a2⟩ := lS_ v.w he.und hi hz es ho hl hn h1c h63 (by rw [eb]; exact hb) hr
    obtain ⟨Hr', k1, k2, k3⟩ := pG_ hrow g q1 q2 a1 a2
    unfold Oper.wp execOp
    simp only [resolve, invoke, builtin, Sem.run_bind, Sem.run_pure, Result.andThen_ok, List.map_toArray, List.map_cons, List.map_nil, h1.ev hx, h1.ev hy, hr]
    exact hk v' Hr' k1 _ ⟨v.im, w', v.sl⟩ (h1.put hN) k2 (h3.trans (k3.permL hH.symm)) (bC_ ((k3.permL hH.symm).le h2) h4)
theorem kz_ {t : TypeId} {parts : Array (Nat × Operand)} {u : Value} (hb : ∀ a : Act, Fr.sat N fr a → ∀ w, (Instr.build t (parts.map fun (i, x) => (i, a.eval x))).run P w = .ok u w) :
    Yld P N fr H Γ (.build t parts) ty (u) :=
  fun a v h1 h2 h4 _ _ _ => by
    have := hb a h1 v.w
    simp only [execOp, Sem.run_bind, this, Result.andThen_ok, Sem.run_pure]
def Fr.evp (fr : Fr) : List (Nat × Operand) → Option (List (Nat × Value))
  | [] => some []
  | (i, x) :: r => match Fr.ev fr x with
    | some v => match Fr.evp fr r with
      | some vs => some ((i, v) :: vs)
      | none => none
    | none => none
theorem Fr.sat.evp {a : Act} (h : Fr.sat N fr a) : ∀ {xs : List (Nat × Operand)} {vs : List (Nat × Value)}, Fr.evp fr xs = some vs → xs.map (fun (i, x) => (i, a.eval x)) = vs
  | [], vs, e => by simp only [Fr.evp, Option.some.injEq] at e; subst e; rfl
  | (i, x) :: r, vs, e => by
    simp only [Fr.evp] at e
    split at e
    · rename_i u hu
      split at e
      · rename_i us hus
        simp only [Option.some.injEq] at e; subst e
        show (i, a.eval x) :: _ = _
        rw [h.ev hu]
        exact congrArg _ (h.evp hus)
      · cases e
    · cases e
def ix_ : List Value → Nat → List Value → List Value
  | cs, 0, [] => cs
  | _ :: cs, 0, v :: vs => v :: ix_ cs 0 vs
  | c :: cs, n + 1, vs => c :: ix_ cs n vs
  | [], _, _ => []
theorem mT_ : ∀ (cs : List Value) (n : Nat), ix_ cs n [] = cs
  | [], 0 => rfl
  | [], n + 1 => rfl
  | c :: cs, 0 => rfl
  | c :: cs, n + 1 => by simp only [ix_]; rw [mT_ cs n]
theorem kO_ : ∀ (cs : List Value) (n : Nat) (v : Value) (vs : List Value), ix_ cs n (v :: vs) = ix_ (cs.set n v) (n + 1) vs
  | [], 0, v, vs => by simp [ix_]
  | [], n + 1, v, vs => by simp [ix_]
  | c :: cs, 0, v, vs => by simp [ix_]
  | c :: cs, n + 1, v, vs => by simp only [ix_, List.set_cons_succ]; rw [kO_ cs n v vs]
theorem kW_ (off : Nat) : ∀ (vs : List Value) (k : Nat) (cs : List Value),
    (vs.zipIdx k).foldl (fun (cs : Array Value) (p : Value × Nat) => cs.setIfInBounds (off + p.2) p.1) cs.toArray = (ix_ cs (off + k) vs).toArray
  | [], k, cs => by simp [mT_]
  | v :: vs, k, cs => by
    simp only [List.zipIdx_cons, List.foldl_cons]
    rw [kO_, show cs.toArray.setIfInBounds (off + k) v = (cs.set (off + k) v).toArray by simp, kW_ off vs (k + 1)]
    rfl
def kf_ (place : Nat → Option (Nat × Nat)) : List Value → List (Nat × Value) → Option (List Value)
  | cells, [] => some cells
  | cells, (i, v) :: rest => match place i with
    | none => none
    | some (off, size) => bif Nat.beq v.cells.toList.length size && Nat.ble (off + size) cells.length then kf_ place (ix_ cells off v.cells.toList) rest else none
theorem ih_ (place : Nat → Option (Nat × Nat)) : ∀ (vs : List (Nat × Value)) (cells cs : List Value), kf_ place cells vs = some cs → Instr.fill place cells.toArray vs = some cs.toArray
  | [], cells, cs, h => by simp only [kf_, Option.some.injEq] at h; subst h; rfl
  | (i, v) :: rest, cells, cs, h => by
    simp only [kf_] at h
    cases hp : place i with
    | none => rw [hp] at h; cases h
    | some q =>
      obtain ⟨off, size⟩ := q
      rw [hp] at h
      simp only at h
      cases hb : (Nat.beq v.cells.toList.length size && Nat.ble (off + size) cells.length) with
      | false => rw [hb] at h; cases h
      | true =>
        rw [hb, cond_true] at h
        simp only [Bool.and_eq_true] at hb
        have e1 : v.cells.size = size := by simpa using Nat.eq_of_beq_eq_true hb.1
        have e2 : off + size ≤ cells.length := Nat.le_of_ble_eq_true hb.2
        have ih := ih_ place rest _ _ h
        have hz := kW_ off v.cells.toList 0 cells
        simp only [Nat.add_zero] at hz
        have hz' : v.cells.zipIdx.foldl (fun (cs : Array Value) (p : Value × Nat) => cs.setIfInBounds (off + p.2) p.1) cells.toArray = (ix_ cells off v.cells.toList).toArray := by
          rw [← hz, ← Array.foldl_toList]
          simp [Array.toList_zipIdx]
        simp only [Instr.fill, hp]
        rw [if_neg (by simp [e1]; omega)]
        exact hz' ▸ ih
def iY_ (P : Program) (t : TypeId) (pl : List (Nat × Nat)) (z : List Value) : Prop :=
  ∃ fs : Array Field, (∀ w, (zeroValue t).run P w = .ok (.agg z.toArray) w) ∧ (∀ w, (underlying t).run P w = .ok (.struct fs) w) ∧ (∀ w, (fs.mapM (fun (f : Field) => (do pure (f.offset, ← sizeOf f.type) : Sem (Nat × Nat)))).run P w = .ok pl.toArray w)
theorem ag_ {t : TypeId} {parts : List (Nat × Operand)} {vs : List (Nat × Value)} {pl : List (Nat × Nat)} {z cs : List Value} (hs : iY_ P t pl z) (hx : Fr.evp fr parts = some vs) (hf : kf_ (fun i => pl[i]?) z vs = some cs) :
    Yld P N fr H Γ (.build t parts.toArray) ty (.agg cs.toArray) :=
  kz_ (fun a h1 w => by
    obtain ⟨fs, e1, e2, e3⟩ := hs
    have := h1.evp hx
    rw [List.map_toArray, this]
    have hf' := ih_ _ _ _ _ hf
    have hg : Instr.fill (fun i => pl.toArray[i]?) z.toArray vs = some cs.toArray := by simpa using hf'
    simp only [Instr.build, Sem.run_bind, e1, Result.andThen_ok, e2, e3, Value.cells, hg, Sem.run_pure])
def lX_ (z : List Value) : Nat → List Value
  | 0 => []
  | n + 1 => z ++ lX_ z n
theorem lW_ (z : List Value) (hz : 0 < z.length) : ∀ (n i : Nat), i < n * z.length → (lX_ z n)[i]? = z[i % z.length]?
  | 0, i, h => by simp at h
  | n + 1, i, h => by
    simp only [lX_]
    by_cases hi : i < z.length
    · rw [List.getElem?_append_left hi, Nat.mod_eq_of_lt hi]
    · rw [List.getElem?_append_right (by omega), lW_ z hz n (i - z.length) (by rw [Nat.add_mul] at h; omega)]
      rw [← Nat.mod_eq_sub_mod (by omega)]
theorem lV_ (z : List Value) : ∀ n, (lX_ z n).length = n * z.length
  | 0 => by simp [lX_]
  | n + 1 => by simp only [lX_, List.length_append, lV_ z n, Nat.add_mul]; omega
theorem nB_ (z : List Value) (hz : 0 < z.length) (n : Nat) : (Array.range (n * z.length)).map (fun i => z.toArray[i % z.toArray.size]!) = (lX_ z n).toArray := by
  apply Array.ext'
  apply List.ext_getElem?
  intro i
  simp only [Array.toList_map, Array.toList_range, List.getElem?_map]
  by_cases hi : i < n * z.length
  · rw [lW_ z hz n i hi, List.getElem?_range hi]
    have hm : i % z.length < z.length := Nat.mod_lt _ hz
    simp [hm]
  · rw [List.getElem?_eq_none (by simpa using hi), List.getElem?_eq_none (by rw [lV_]; omega)]
    rfl
theorem aK_ {t e : TypeId} {len sz : Nat} {parts : List (Nat × Operand)} {vs : List (Nat × Value)} {zv : Value} {cs : List Value} (hu : ∀ w, (underlying t).run P w = .ok (.slice e) w) (hs : ∀ w, (sizeOf e).run P w = .ok sz w) (hz : ∀ w, (zeroValue e).run P w = .ok zv w)
    (hzl : zv.cells.toList.length = sz) (hp : Nat.blt 0 (len * sz) = true) (hle : Nat.ble (len * sz) 16777216 = true) (hx : Fr.evp fr parts = some vs) (hf : kf_ (fun i => some (i * sz, sz)) (lX_ zv.cells.toList len) vs = some cs) (hN : Nat.blt d N = true)
    (hk : ∀ b, Ops P R N v0 H0 ops l K ((d, .slice (some ⟨b, 0, none⟩) len len) :: fr) ((b, .cells cs.toArray e (0, 0)) :: H) Γ) : Ops P R N v0 H0 ops (⟨some d, .buildSlice t len parts.toArray, ty, ps, af, none⟩ :: l) K fr H Γ :=
  gi_ (x := fun b => .slice (some ⟨b, 0, none⟩) len len) hN (fun a v h1 h2 h4 => by
    have hx' := h1.evp hx
    have hf' := ih_ _ _ _ _ hf
    have hpos : 0 < len * sz := by simpa [Nat.blt_eq] using hp
    have hszp : 0 < sz := Nat.pos_of_mul_pos_left hpos
    have hle' : len * sz ≤ 16777216 := Nat.le_of_ble_eq_true hle
    have hr := nB_ zv.cells.toList (by omega) len
    rw [hzl] at hr
    simp only [Array.toArray_toList] at hr
    rw [← hr] at hf'
    simp only [execOp, Instr.buildSlice, Sem.run_bind, hu, Result.andThen_ok, hs, List.map_toArray, hx']
    rw [if_neg (by omega), if_neg (by omega)]
    simp only [Sem.run_bind, Sem.run_pure, hz, Result.andThen_ok, hf']
    rfl) hk
end ops
end Go.Sx
namespace Go.Sx
open Go
section ops
variable {P : Program} {N : Nat} {v0 : Vw} {H0 : Hp} {R : Exit → Act → World → Prop} {K : List Kt} {fr : Fr} {H : Hp} {Γ : List Fct}
variable {ops : Array Oper} {l : List Oper} {d : Nat} {ty : TypeId} {ps : String} {af : Array Edge}
theorem mz_ (h : Array Obj) (o : Obj) (f : Obj → Obj) : (h.push o).modify h.size f = h.push (f o) := by
  apply Array.ext_getElem?
  intro i
  rw [Array.getElem?_modify]
  by_cases e : h.size = i
  · subst e; simp
  · rw [if_neg e, Array.getElem?_push, Array.getElem?_push, if_neg (fun h => e h.symm), if_neg (fun h => e h.symm)]
def bytesV (m : List UInt8) : List Value := m.map fun c => .int .u8 (c.toNat : Int)
theorem rW_ {x : Operand} {s t e : TypeId} {m : List UInt8} (hs : ∀ w, (underlying s).run P w = .ok .string w) (ht : ∀ w, (underlying t).run P w = .ok (.slice e) w) (he : ∀ w, (underlying e).run P w = .ok (.int .u8) w)
    (hx : Fr.ev fr x = some (str m)) (hN : Nat.blt d N = true)
    (hk : ∀ cap b, m.length ≤ cap → Ops P R N v0 H0 ops l K ((d, .slice (some ⟨b, 0, none⟩) m.length cap) :: fr) ((b, .cells (bytesV m ++ List.replicate (cap - m.length) (Value.int .u8 0)).toArray e (cap, cap + 1)) :: H) Γ) :
    Ops P R N v0 H0 ops (⟨some d, .convert s t x, ty, ps, af, none⟩ :: l) K fr H Γ :=
  jG_ (β := Nat) (x := fun cap b => .slice (some ⟨b, 0, none⟩) m.length cap) (o := fun cap => .cells (bytesV m ++ List.replicate (cap - m.length) (Value.int .u8 0)).toArray e (cap, cap + 1)) (fun cap => m.length ≤ cap) hN
    (fun a v h1 h2 h4 => by
      have hge : m.length ≤ (Question.appendCap m.length 0 e).cut (v.w.tape v.w.drawn (.appendCap m.length 0 e)) := by simp [Question.cut]
      generalize hc : (Question.appendCap m.length 0 e).cut (v.w.tape v.w.drawn (.appendCap m.length 0 e)) = cap at hge
      have hsz : (bytesV m ++ List.replicate (cap - m.length) (Value.int .u8 0)).length = cap := by simp [bytesV]; omega
      have e1 : (⟨m.toArray⟩ : ByteArray).size = m.length := by simp [ByteArray.size]
      have e2 : (Array.map (fun (b : UInt8) => Value.int .u8 (b.toNat : Int)) m.toArray ++ Array.replicate (cap - m.length) (Value.int .u8 0)) = (bytesV m ++ List.replicate (cap - m.length) (Value.int .u8 0)).toArray := by simp [bytesV]
      refine ⟨cap, { v.w with heap := v.w.heap.push (.cells (bytesV m ++ List.replicate (cap - m.length) (Value.int .u8 0)).toArray e (cap, cap + 1)), drawn := v.w.drawn + 1 }, hge, ?_, rfl, rfl, rfl, rfl, Nat.le_succ _⟩
      have hst : (Conv.stringToBytes e ⟨m.toArray⟩).run P v.w = .ok (.slice (some ⟨v.w.heap.size, 0, none⟩) m.length cap) { v.w with heap := v.w.heap.push (.cells (bytesV m ++ List.replicate (cap - m.length) (Value.int .u8 0)).toArray e (cap, cap + 1)), drawn := v.w.drawn + 1 } := by
        generalize bytesV m ++ List.replicate (cap - m.length) (Value.int .u8 0) = cs at hsz e2 ⊢
        simp only [Conv.stringToBytes, e1]
        show Sem.run P (choose _ >>= _) v.w = _
        rw [Sem.run_bind]
        have hch : (choose (.appendCap m.length 0 e)).run P v.w = .ok cap { v.w with drawn := v.w.drawn + 1 } := by
          simp [choose, Sem.run, Question.forced, hc]
        rw [hch, Result.andThen_ok, e2]
        simp only [newRow, Sem.run_bind, newObj, markStringish, shape, freeze]
        simp only [Sem.run, Result.andThen_ok, World.shape?, Array.getElem?_push_size, List.size_toArray, hsz, World.freeze, Nat.one_ne_zero, if_false, Sem.run_pure]
        rw [mz_]
        simp
      simp only [execOp, Sem.run_bind, convert, hs, ht, he, Result.andThen_ok, h1.ev hx, str, hst, Sem.run_pure])
    (fun cap b hq => hk cap b hq)
theorem fg_ {t : TypeId} {x : Operand} {lo hi : Option Operand} {m : List UInt8} {i j : Nat} {kl kh : IntKind} (hu : ∀ w, (underlying t).run P w = .ok .string w) (hx : Fr.ev fr x = some (str m))
    (hlo : match lo with | some y => Fr.ev fr y = some (.int kl (i : Int)) | none => i = 0) (hhi : match hi with | some y => Fr.ev fr y = some (.int kh (j : Int)) | none => j = m.length) (hij : i ≤ j) (hj : j ≤ m.length) :
    Yld P N fr H Γ (.slice t x lo hi none) ty (str ((m.drop i).take (j - i))) :=
  fun a v h1 h2 h4 _ _ _ => by
    have e1 : (⟨m.toArray⟩ : ByteArray).size = m.length := by simp [ByteArray.size]
    have e2 := ByteArray.extract_mk m i j
    cases lo <;> cases hi <;> simp only at hlo hhi
    · subst hlo hhi; simp [execOp, Instr.sliceAt, Instr.slice, hu, h1.ev hx, str, Instr.sliceBounds, e1, e2]
    · subst hlo; simp [execOp, Instr.sliceAt, Instr.slice, hu, h1.ev hx, h1.ev hhi, str, Instr.sliceBounds, Instr.sliceBound, asIntOf, e1, e2, hj]
    · subst hhi; simp [execOp, Instr.sliceAt, Instr.slice, hu, h1.ev hx, h1.ev hlo, str, Instr.sliceBounds, Instr.sliceBound, asIntOf, e1, e2, hij]
    · simp [execOp, Instr.sliceAt, Instr.slice, hu, h1.ev hx, h1.ev hlo, h1.ev hhi, str, Instr.sliceBounds, Instr.sliceBound, asIntOf, e1, e2, hij, hj]
def sad (ad : Option Addr) (cap i n : Nat) : Option Addr := if cap = i then ad else ad.map (·.add (i * n))
theorem eB_ {t e : TypeId} {x : Operand} {lo hi : Option Operand} {ad : Option Addr} {len cap i j n : Nat} {kl kh : IntKind} (hu : ∀ w, (underlying t).run P w = .ok (.slice e) w) (hs : ∀ w, (sizeOf e).run P w = .ok n w) (hx : Fr.ev fr x = some (.slice ad len cap))
    (hlo : match lo with | some y => Fr.ev fr y = some (.int kl (i : Int)) | none => i = 0) (hhi : match hi with | some y => Fr.ev fr y = some (.int kh (j : Int)) | none => j = len) (hij : i ≤ j) (hj : j ≤ cap) :
    Yld P N fr H Γ (.slice t x lo hi none) ty (.slice (sad ad cap i n) (j - i) (cap - i)) :=
  fun a v h1 h2 h4 _ _ _ => by
    cases lo <;> cases hi <;> simp only at hlo hhi
    · subst hlo hhi; simp [execOp, Instr.sliceAt, Instr.slice, hu, hs, h1.ev hx, Instr.sliceBounds, sad]
    · subst hlo; simp [execOp, Instr.sliceAt, Instr.slice, hu, hs, h1.ev hx, h1.ev hhi, Instr.sliceBounds, Instr.sliceBound, asIntOf, hj, sad]
    · subst hhi; simp [execOp, Instr.sliceAt, Instr.slice, hu, hs, h1.ev hx, h1.ev hlo, Instr.sliceBounds, Instr.sliceBound, asIntOf, hij, sad]
    · simp [execOp, Instr.sliceAt, Instr.slice, hu, hs, h1.ev hx, h1.ev hlo, h1.ev hhi, Instr.sliceBounds, Instr.sliceBound, asIntOf, hij, hj, sad]
theorem ca_.sad {v : Vw} {ad : Option Addr} {cs : List Value} {cap i n : Nat} (h : ca_ v ad cs) (ds : List Value) (hs : ∀ j x, ds[j]? = some x → cs[i * n + j]? = some x) (hc : cs.length ≤ cap * n) : ca_ v (sad ad cap i n) ds := by
  unfold Sx.sad
  split
  · rename_i hci
    subst hci
    left
    cases ds with
    | nil => rfl
    | cons d ds =>
      have := hs 0 d rfl
      rw [List.getElem?_eq_none (by omega)] at this
      cases this
  · exact h.drop (i * n) ds hs
theorem cp_ {fn : Fn} {xs ys : List Operand} {us vs : List Value} (hx : Fr.evs fr xs = some us) (hy : Fr.evs fr ys = some vs) : Yld P N fr H Γ (.makeFunc fn xs.toArray ys.toArray) ty (.func fn us.toArray vs.toArray) :=
  fun a v h1 h2 h4 _ _ _ => by
    have e1 := h1.evs hx
    have e2 := h1.evs hy
    simp [execOp, Instr.makeFunc, e1, e2]
theorem aH_ {f : FuncId} {g : Operand} {first cap : List Value} {xs : List Operand} {ats : Array TypeId} {vs : List Value} {ι : Type} {Hc F : Hp} {Γc : List Fct} {ret : ι → Value} {H' : ι → Hp} {Γ' : ι → List Fct}
    (hT : Tri P f (first ++ vs ++ cap).toArray Hc Γc ret H' Γ') (hg : Fr.ev fr g = some (.func (.func f) first.toArray cap.toArray)) (hx : Fr.evs fr xs = some vs) (hH : H.Perm (Hc ++ F)) (hΓ : ∀ v, v.sat H → aI_ Γ v → aI_ Γc v) (hN : Nat.blt d N = true)
    (hk : ∀ x, Ops P R N v0 H0 ops l K ((d, ret x) :: fr) (H' x ++ F) (Γ' x ++ Γ)) :
    Ops P R N v0 H0 ops (⟨some d, .call ⟨.value g, xs.toArray, ats⟩, ty, ps, af, none⟩ :: l) K fr H Γ :=
  kM_ hT (fun a w h1 => by
    have e1 := h1.evs hx
    have hc := hT.callable (first ++ vs ++ cap).toArray w
    simp only [execOp, resolve, Deferred.ofValue, h1.ev hg, invoke, List.map_toArray, e1, Sem.run_bind, Sem.run_pure, Result.andThen_ok, List.append_toArray, hc]) hH hΓ hN hk
end ops
end Go.Sx
namespace Go.Sx
open Go
class NoPan (R : Exit → Act → World → Prop) : Prop where
  no : ∀ c a w, ¬ R (.panic c) a w
instance {P : Program} {fn : Func} {ι : Type} {v0 : Vw} {H0 : Hp} {ret : ι → Value} {H' : ι → Hp} {Γ' : ι → List Fct} : NoPan (bodyPost P fn (iZ_ v0 H0 ret H' Γ')) :=
  ⟨fun c a w h => by obtain ⟨_, x, v', e, _⟩ := h; cases e⟩
instance {N : Nat} {v0 : Vw} {H0 : Hp} {ι : Type} {frs : ι → Fr} {Hs : ι → Hp} {Γs : ι → List Fct} : NoPan (Mid N v0 H0 frs Hs Γs) :=
  ⟨fun c a w h => by cases h.1⟩
theorem hT_ {P : Program} {R : Exit → Act → World → Prop} [hR : NoPan R] : ∀ (K : List Kt) (c : List PanicEntry) (a : Act) (w : World), ¬ post P R K (.panic c) a w
  | [], c, a, w => hR.no c a w
  | .seq _ :: K, c, a, w => hT_ K c a w
  | .inv _ :: K, c, a, w => hT_ K c a w
  | .blk _ :: K, c, a, w => hT_ K c a w
def SW (Hs : Hp) (Γs : List Fct) (w : World) : Prop := ∃ v : Vw, v.w = w ∧ v.sat Hs ∧ aI_ Γs v
section any
variable {P : Program} {N : Nat} {v0 : Vw} {H0 : Hp} {R : Exit → Act → World → Prop} {K : List Kt} {fr : Fr} {H Hs : Hp} {Γ Γs : List Fct}
variable {ops : Array Oper} {d : Nat} {ty : TypeId} {ps : String} {af : Array Edge} {fuel : Nat} {listed : Array Bool}
abbrev Any (P : Program) (R : Exit → Act → World → Prop) (N : Nat) (v0 : Vw) (H0 : Hp) (ops : Array Oper) (Hs : Hp) (Γs : List Fct) (fuel : Nat) (listed : Array Bool) (K : List Kt) (fr : Fr) (H : Hp) (Γ : List Fct) : Prop :=
  Ok N v0 H0 (wpAnyH P .any ops (post P R K) (SW Hs Γs) fuel listed) fr H Γ
theorem mo_ {id : Nat} (Hs : Hp) (Γs : List Fct) (hm : P.follows .mixedOrders = true) (h : Any P R N v0 H0 ops Hs Γs ops.size (Array.replicate ops.size false) K fr H Γ) : Run P R N v0 H0 (.region id ops true) K fr H Γ :=
  fun a v h1 h2 h3 h4 => wp_region_held hm (by
    have hle : v.le ⟨v.im, { v.w with drawn := v.w.drawn + 1 }, v.sl⟩ := ⟨fun _ h => h, fun _ _ => rfl, rfl⟩
    exact h a ⟨v.im, { v.w with drawn := v.w.drawn + 1 }, v.sl⟩ h1 ⟨h2.own, h2.nodup, h2.lt⟩ ⟨h3.os, h3.tape, h3.output, h3.size, h3.block, h3.imUp, h3.imNew, h3.hNew, h3.sl, h3.dr.imp (fun h => h) fun h => Nat.le_succ_of_le h⟩ (bC_ hle h4))
theorem aN_ {id : Nat} (hm : P.follows .mixedOrders = true) (h : Any P R N v0 H0 ops H Γ ops.size (Array.replicate ops.size false) K fr H Γ) : Run P R N v0 H0 (.region id ops true) K fr H Γ := mo_ H Γ hm h
theorem Vw.sat.tail {v : Vw} {p : Nat × Obj} (h : v.sat (p :: H)) : v.sat H :=
  ⟨fun x hx => h.own x (List.mem_cons_of_mem _ hx), by have := h.nodup; rw [List.map_cons, List.nodup_cons] at this; exact this.2, h.lt⟩
theorem lT_ [NoPan R] (i : Nat) {oi : Oper} {x : Value} (hi : ops[i]? = some oi) (hn : Region.noSelect ops = true) (hf : Region.free .any ops listed i = true) (hr : (Region.ready .any ops listed).contains i = true)
    (hd : oi.dst = some d) (hN : Nat.blt d N = true) (hy : ∀ a, Fr.sat N fr a → YieldsIf P ops (SW Hs Γs) oi x a) (hs : ∀ v, v.sat H → aI_ Γ v → v.sat Hs ∧ aI_ Γs v)
    (h : Any P R N v0 H0 ops Hs Γs fuel (listed.setIfInBounds i true) K ((d, x) :: fr) H Γ) : Any P R N v0 H0 ops Hs Γs (fuel + 1) listed K fr H Γ :=
  fun a v h1 h2 h3 h4 => wpAnyH_take hi hn hf hr (fun c a w hq => absurd hq (hT_ K c _ w)) (hy a h1) ⟨v, rfl, hs v h2 h4⟩ (by
    rw [hd]
    exact h _ v (h1.put hN) h2 h3 h4)
theorem rk_ [NoPan R] (i : Nat) {op : Op} {x : Value} (hi : ops[i]? = some ⟨some d, op, ty, ps, af, none⟩) (hn : Region.noSelect ops = true) (hf : Region.free .any ops listed i = true) (hr : (Region.ready .any ops listed).contains i = true)
    (he : Yld P N fr Hs Γs op ty x) (hN : Nat.blt d N = true) (hs : ∀ v, v.sat H → aI_ Γ v → v.sat Hs ∧ aI_ Γs v)
    (h : Any P R N v0 H0 ops Hs Γs fuel (listed.setIfInBounds i true) K ((d, x) :: fr) H Γ) : Any P R N v0 H0 ops Hs Γs (fuel + 1) listed K fr H Γ :=
  lT_ i hi hn hf hr rfl hN (fun a h1 => .inl ⟨rfl, fun w ⟨v, e, k1, k2⟩ => by subst e; exact he a v h1 k1 k2 (some d) ps af⟩) hs h
theorem pO_ [NoPan R] (i : Nat) {op : Op} {x : Value} {j t : Nat} {want : Bool} (hi : ops[i]? = some ⟨some d, op, ty, ps, af, some (j, want)⟩) (hn : Region.noSelect ops = true) (hf : Region.free .any ops listed i = true) (hr : (Region.ready .any ops listed).contains i = true)
    (hj : ib_ ops j = some t) (hx : Fr.get fr t = some (.bool want)) (he : Yld P N fr Hs Γs op ty x) (hN : Nat.blt d N = true) (hs : ∀ v, v.sat H → aI_ Γ v → v.sat Hs ∧ aI_ Γs v)
    (h : Any P R N v0 H0 ops Hs Γs fuel (listed.setIfInBounds i true) K ((d, x) :: fr) H Γ) : Any P R N v0 H0 ops Hs Γs (fuel + 1) listed K fr H Γ :=
  lT_ i hi hn hf hr rfl hN (fun a h1 => .inl ⟨by simp [Region.wanted, gc_ h1 hj hx], fun w ⟨v, e, k1, k2⟩ => by subst e; exact he a v h1 k1 k2 (some d) ps af⟩) hs h
theorem any_no [NoPan R] (i : Nat) {op : Op} {x : Value} {j t : Nat} {want : Bool} (hi : ops[i]? = some ⟨some d, op, ty, ps, af, some (j, want)⟩) (hn : Region.noSelect ops = true) (hf : Region.free .any ops listed i = true) (hr : (Region.ready .any ops listed).contains i = true)
    (hj : ib_ ops j = some t) (hx : Fr.get fr t = some x) (hne : (match x with | .bool b => Bool.xor b want | _ => true) = true) (hN : Nat.blt d N = true) (hs : ∀ v, v.sat H → aI_ Γ v → v.sat Hs ∧ aI_ Γs v)
    (h : Any P R N v0 H0 ops Hs Γs fuel (listed.setIfInBounds i true) K ((d, undef) :: fr) H Γ) : Any P R N v0 H0 ops Hs Γs (fuel + 1) listed K fr H Γ :=
  lT_ i hi hn hf hr rfl hN (fun a h1 => .inr ⟨by
    simp only [Region.wanted, gc_ h1 hj hx]
    cases x <;> first | rfl | (rename_i b; cases b <;> cases want <;> simp_all), rfl⟩) hs h
def ha_ (ops : Array Oper) : Array Bool → List Nat → Bool
  | _, [] => true
  | listed, i :: is => Region.free .any ops listed i && ((Region.ready .any ops listed).contains i && ha_ ops (listed.setIfInBounds i true) is)
def Sq (P : Program) (R : Exit → Act → World → Prop) (N : Nat) (v0 : Vw) (H0 : Hp) (ops : Array Oper) (Hs : Hp) (Γs : List Fct) (is : List Nat) (fuel : Nat) (listed : Array Bool) (K : List Kt) (fr : Fr) (H : Hp) (Γ : List Fct) : Prop :=
  (Region.noSelect ops && ha_ ops listed is) = true → (∀ v, v.sat H → aI_ Γ v → v.sat Hs ∧ aI_ Γs v) → Any P R N v0 H0 ops Hs Γs (fuel + is.length) listed K fr H Γ
theorem ad_ (fuel : Nat) (is : List Nat) (hq : (Region.noSelect ops && ha_ ops listed is) = true) (hs : ∀ v, v.sat H → aI_ Γ v → v.sat Hs ∧ aI_ Γs v) (h : Sq P R N v0 H0 ops Hs Γs is fuel listed K fr H Γ) : Any P R N v0 H0 ops Hs Γs (fuel + is.length) listed K fr H Γ := h hq hs
theorem ac_ (h : Any P R N v0 H0 ops Hs Γs fuel listed K fr H Γ) : Sq P R N v0 H0 ops Hs Γs [] fuel listed K fr H Γ := fun _ _ => h
theorem jq_ {i : Nat} {is : List Nat} (h : (Region.noSelect ops && ha_ ops listed (i :: is)) = true) : Region.noSelect ops = true ∧ Region.free .any ops listed i = true ∧ (Region.ready .any ops listed).contains i = true ∧ (Region.noSelect ops && ha_ ops (listed.setIfInBounds i true) is) = true := by
  simp only [ha_, Bool.and_eq_true] at h ⊢
  exact ⟨h.1, h.2.1, h.2.2.1, h.1, h.2.2.2⟩
theorem k_ [NoPan R] {i : Nat} {is : List Nat} {op : Op} {x : Value} (hi : ops[i]? = some ⟨some d, op, ty, ps, af, none⟩) (he : Yld P N fr Hs Γs op ty x) (hN : Nat.blt d N = true)
    (h : Sq P R N v0 H0 ops Hs Γs is fuel (listed.setIfInBounds i true) K ((d, x) :: fr) H Γ) : Sq P R N v0 H0 ops Hs Γs (i :: is) fuel listed K fr H Γ := fun hq hs => by
  obtain ⟨q1, q2, q3, q4⟩ := jq_ hq
  exact rk_ i hi q1 q2 q3 he hN hs (h q4 hs)
theorem ds_ [NoPan R] {i : Nat} {is : List Nat} {op : Op} {X : Bool} (hi : ops[i]? = some ⟨some d, op, ty, ps, af, none⟩) (he : Yld P N fr Hs Γs op ty (.bool X)) (hN : Nat.blt d N = true)
    (h : ∀ r : Bool, X = r → Sq P R N v0 H0 ops Hs Γs is fuel (listed.setIfInBounds i true) K ((d, .bool r) :: fr) H Γ) : Sq P R N v0 H0 ops Hs Γs (i :: is) fuel listed K fr H Γ := k_ hi he hN (h X rfl)
theorem cK_ [NoPan R] {i : Nat} {is : List Nat} {op : Op} {x : Value} {j t : Nat} {want : Bool} (hi : ops[i]? = some ⟨some d, op, ty, ps, af, some (j, want)⟩) (hj : ib_ ops j = some t) (hx : Fr.get fr t = some (.bool want)) (he : Yld P N fr Hs Γs op ty x) (hN : Nat.blt d N = true)
    (h : Sq P R N v0 H0 ops Hs Γs is fuel (listed.setIfInBounds i true) K ((d, x) :: fr) H Γ) : Sq P R N v0 H0 ops Hs Γs (i :: is) fuel listed K fr H Γ := fun hq hs => by
  obtain ⟨q1, q2, q3, q4⟩ := jq_ hq
  exact pO_ i hi q1 q2 q3 hj hx he hN hs (h q4 hs)
theorem jp_ [NoPan R] {i : Nat} {is : List Nat} {op : Op} {X : Bool} {j t : Nat} {want : Bool} (hi : ops[i]? = some ⟨some d, op, ty, ps, af, some (j, want)⟩) (hj : ib_ ops j = some t) (hx : Fr.get fr t = some (.bool want)) (he : Yld P N fr Hs Γs op ty (.bool X)) (hN : Nat.blt d N = true)
    (h : ∀ r : Bool, X = r → Sq P R N v0 H0 ops Hs Γs is fuel (listed.setIfInBounds i true) K ((d, .bool r) :: fr) H Γ) : Sq P R N v0 H0 ops Hs Γs (i :: is) fuel listed K fr H Γ := cK_ hi hj hx he hN (h X rfl)
theorem dN_ [NoPan R] {i : Nat} {is : List Nat} {op : Op} {x : Value} {j t : Nat} {want : Bool} (hi : ops[i]? = some ⟨some d, op, ty, ps, af, some (j, want)⟩) (hj : ib_ ops j = some t) (hx : Fr.get fr t = some x) (hne : (match x with | .bool b => Bool.xor b want | _ => true) = true) (hN : Nat.blt d N = true)
    (h : Sq P R N v0 H0 ops Hs Γs is fuel (listed.setIfInBounds i true) K ((d, undef) :: fr) H Γ) : Sq P R N v0 H0 ops Hs Γs (i :: is) fuel listed K fr H Γ := fun hq hs => by
  obtain ⟨q1, q2, q3, q4⟩ := jq_ hq
  exact any_no i hi q1 q2 q3 hj hx hne hN hs (h q4 hs)
def Nx (P : Program) (R : Exit → Act → World → Prop) (ops : Array Oper) (Hs : Hp) (Γs : List Fct) (fuel : Nat) (listed : Array Bool) (K : List Kt) (a : Act) (w : World) : Prop :=
  SW Hs Γs w ∧ wpAnyH P .any ops (post P R K) (SW Hs Γs) fuel listed a w
theorem O_ (i : Nat) {o : Oper} (hi : ops[i]? = some o) (hr : Region.ready .any ops listed = [i]) (h : Ops P R N v0 H0 ops [o] (.inv (Nx P R ops Hs Γs fuel (listed.setIfInBounds i true) K) :: K) fr H Γ) : Any P R N v0 H0 ops Hs Γs (fuel + 1) listed K fr H Γ := by
  intro a v h1 h2 h3 h4
  refine wpAnyH_all hr (by simp) fun j hj => ?_
  simp only [List.mem_singleton] at hj
  subst hj
  have := h a v h1 h2 h3 h4
  unfold wpOp
  simp only [hi]
  unfold wpList at this
  split
  · rename_i hw
    rw [if_pos hw] at this
    rcases this with q | q
    · left
      unfold Oper.wp at q ⊢
      generalize (execOp a.eval o).run P v.w = r at q ⊢
      cases r with
      | ok n w' =>
        cases n <;> simp only [Oper.upon] at q ⊢ <;> exact q
      | halt x w' =>
        cases x <;> simp only [Oper.upon] at q ⊢
        case panic u => exact q
    · exact .inr q
  · rename_i hw
    rw [if_neg hw] at this
    exact this
theorem C_ (hs : ∀ v, v.sat H → aI_ Γ v → v.sat Hs ∧ aI_ Γs v) (h : Any P R N v0 H0 ops Hs Γs fuel listed K fr H Γ) : Ok N v0 H0 (Nx P R ops Hs Γs fuel listed K) fr H Γ :=
  fun a v h1 h2 h3 h4 => ⟨⟨v, rfl, hs v h2 h4⟩, h a v h1 h2 h3 h4⟩
theorem ab_ (hr : Region.ready .any ops listed = []) (h : Fin P R N v0 H0 K fr H Γ) : Any P R N v0 H0 ops Hs Γs fuel listed K fr H Γ :=
  fun a v h1 h2 h3 h4 => wpAnyH_done hr (h a v h1 h2 h3 h4) fuel
theorem bb_ {α : Type} [BEq α] [LawfulBEq α] {a b : α} (h : (a != b) = true) : a ≠ b := by simpa using h
theorem bc_ {α : Type} [BEq α] [LawfulBEq α] {a b : α} (h : (a != b) = false) : a = b := by simpa using h
theorem rM_ {fn : Func} {t s u : Nat} {ι : Type} {F : Hp} {ret : ι → Value} {H' : ι → Hp} {Γ' : ι → List Fct} {u1 u2 u3 : Value} (hr : fn.results = #[.tmp t, .tmp s, .tmp u]) (x : ι) (h1x : Fr.get fr t = some u1) (h2x : Fr.get fr s = some u2) (h3x : Fr.get fr u = some u3) (hx : .tuple #[u1, u2, u3] = ret x) (hH : H.Perm (H' x ++ F))
    (hΓ : ∀ v, v.sat H → aI_ Γ v → aI_ (Γ' x) v) : Ok N v0 H0 (bodyPost P fn (iZ_ v0 H0 ret H' Γ') .ret) fr H Γ :=
  ew_ hH hΓ fun a v h1 h2 h3 h4 => ⟨h1.defers, ret x, by rw [← hx]; have e1 := h1.val t _ h1x; have e2 := h1.val s _ h2x; have e3 := h1.val u _ h3x; simp [results, hr, e1, e2, e3], x, v, rfl, rfl, h2, h4, h3⟩
theorem gq_ {f : FuncId} {args : Array Value} {r : Value} (hc : fZ_ P f) (h : ∀ w, Calls P f args w fun e w' => e = .returned r ∧ w'.heap = w.heap ∧ w'.os = w.os ∧ w'.tape = w.tape ∧ w'.output = w.output ∧ w.drawn ≤ w'.drawn) : Fn0 P f args r :=
  ⟨hc, fun v h1 _ => (h v.w).mono fun e w' ⟨he, e1, e2, e3, e4, ed⟩ => ⟨(), ⟨v.im, w', v.sl⟩, he, rfl, ⟨by simp, by simp, fun b hb => by show b < w'.heap.size; rw [e1]; exact h1.lt b hb⟩, trivial,
    ⟨e2, e3, e4, by simp [e1], fun b _ _ => by show w'.heap[b]? = _; rw [e1], fun _ h => h, fun _ h => .inl h, fun _ h => by simp at h, rfl, .inr ed⟩⟩⟩
theorem ce_ {f : FuncId} {g : Operand} {first cap : List Value} {l : List Oper} {xs : List Operand} {ats : Array TypeId} {vs : List Value} {Hc F : Hp} {Γc : List Fct} {X : Bool}
    (hT : Tri P f (first ++ vs ++ cap).toArray Hc Γc (fun _ : Unit => .bool X) (fun _ => Hc) (fun _ => [])) (hg : Fr.ev fr g = some (.func (.func f) first.toArray cap.toArray)) (hx : Fr.evs fr xs = some vs) (hH : H.Perm (Hc ++ F)) (hΓ : ∀ v, v.sat H → aI_ Γ v → aI_ Γc v) (hN : Nat.blt d N = true)
    (hk : ∀ r : Bool, X = r → Ops P R N v0 H0 ops l K ((d, .bool r) :: fr) (Hc ++ F) Γ) :
    Ops P R N v0 H0 ops (⟨some d, .call ⟨.value g, xs.toArray, ats⟩, ty, ps, af, none⟩ :: l) K fr H Γ :=
  aH_ hT hg hx hH hΓ hN fun _ => hk X rfl
theorem at_ {k : Act → World → Prop} {H' : Hp} (hH : H.Perm H') (h : Ok N v0 H0 k fr H' Γ) : Ok N v0 H0 k fr H Γ :=
  fun a v h1 h2 h3 h4 => h a v h1 (h2.perm hH) (h3.subR fun b hb => (hH.map Prod.fst).mem_iff.2 hb) h4
theorem eV_ : ∀ {H : Hp} {i : Nat} {p : Nat × Obj}, H[i]? = some p → H.Perm (p :: H.eraseIdx i)
  | [], i, p, h => by simp at h
  | x :: H, 0, p, h => by simp at h; subst h; exact .refl _
  | x :: H, i + 1, p, h => by
    have := eV_ (H := H) (i := i) (p := p) (by simpa using h)
    exact (List.Perm.cons x this).trans (List.Perm.swap p x _)
theorem mF_ : ∀ {H : Hp} {i : Nat} {p q : Nat × Obj}, H[i]? = some p → (q :: H.eraseIdx i).Perm (H.set i q)
  | [], i, p, q, h => by simp at h
  | x :: H, 0, p, q, h => by exact .refl _
  | x :: H, i + 1, p, q, h => by
    have := mF_ (H := H) (i := i) (p := p) (q := q) (by simpa using h)
    exact (List.Perm.swap x q _).trans (List.Perm.cons x this)
theorem pv_ {f : FuncId} {l : List Oper} {xs : List Operand} {ats : Array TypeId} {vs : List Value} (i : Nat) {b : Nat} {o o' : Obj} {Γc : List Fct} {r : Value}
    (hT : Tri P f vs.toArray [(b, o)] Γc (fun _ : Unit => r) (fun _ => [(b, o')]) (fun _ => [])) (hx : Fr.evs fr xs = some vs) (hi : H[i]? = some (b, o)) (hΓ : ∀ v, v.sat H → aI_ Γ v → aI_ Γc v) (hN : Nat.blt d N = true)
    (hk : Ops P R N v0 H0 ops l K ((d, r) :: fr) (H.set i (b, o')) Γ) :
    Ops P R N v0 H0 ops (⟨some d, .call ⟨.value (.func f), xs.toArray, ats⟩, ty, ps, af, none⟩ :: l) K fr H Γ :=
  Q_ hT hx (eV_ hi) hΓ hN fun _ => at_ (mF_ hi) hk
theorem jH_ {f : FuncId} {l : List Oper} {xs : List Operand} {ats : Array TypeId} {vs : List Value} (i : Nat) {b : Nat} {o o' : Obj} {Γc : List Fct} {X : Bool}
    (hT : Tri P f vs.toArray [(b, o)] Γc (fun _ : Unit => .bool X) (fun _ => [(b, o')]) (fun _ => [])) (hx : Fr.evs fr xs = some vs) (hi : H[i]? = some (b, o)) (hΓ : ∀ v, v.sat H → aI_ Γ v → aI_ Γc v) (hN : Nat.blt d N = true)
    (hk : ∀ r : Bool, X = r → Ops P R N v0 H0 ops l K ((d, .bool r) :: fr) (H.set i (b, o')) Γ) :
    Ops P R N v0 H0 ops (⟨some d, .call ⟨.value (.func f), xs.toArray, ats⟩, ty, ps, af, none⟩ :: l) K fr H Γ :=
  pv_ i hT hx hi hΓ hN (hk X rfl)
end any
end Go.Sx
namespace Go.Sx
open Go
structure Opn (F : Fence) : Prop where
  fn : ∀ f, F.fn f
  depth : F.depth = none
theorem fo_ : Opn Fence.wide := ⟨fun _ => trivial, rfl⟩
theorem ek_ (l : Nat) : Opn (Fence.wide.inRound l) := ⟨fun _ => trivial, rfl⟩
theorem lO_ {F : Fence} {n : Nat} {P : Program} {f : FuncId} {args : Array Value} {w : World} {R : Ending → World → Prop} (h : Calls P f args w R) (l : Nat) : CallsIn (Fence.wide.inRound l) n P f args w R :=
  (callsIn_wide (n := n)).2 h
structure SatD (N : Nat) (D : List Deferred) (fr : Fr) (a : Act) : Prop where
  sat : Fr.sat N fr ⟨a.tmps, []⟩
  defers : a.defers = D
theorem SatD.put {N : Nat} {D : List Deferred} {fr : Fr} {a : Act} {d : Nat} {x : Value} (h : SatD N D fr a) (hd : Nat.blt d N = true) : SatD N D ((d, x) :: fr) (a.put (some d) x) :=
  ⟨h.sat.put hd, h.defers⟩
def OkD (N : Nat) (D : List Deferred) (v0 : Vw) (H0 : Hp) (k : Act → World → Prop) (fr : Fr) (H : Hp) (Γ : List Fct) : Prop :=
  ∀ a v, SatD N D fr a → v.sat H → v0.to H0 v H → aI_ Γ v → k a v.w
def eA_ (F : Fence) (n : Nat) (P : Program) (R : Exit → Act → World → Prop) : List Kt → Exit → Act → World → Prop
  | [], e, a, w => R e a w
  | .seq c :: K, .normal, a, w => c.wpIn F n P (eA_ F n P R K) a w
  | .seq _ :: K, e, a, w => eA_ F n P R K e a w
  | .inv J :: _, .normal, a, w => J a w
  | .inv _ :: K, e, a, w => eA_ F n P R K e a w
  | .blk id :: K, .exit id', a, w => if id' = id then eA_ F n P R K .normal a w else eA_ F n P R K (.exit id') a w
  | .blk _ :: K, e, a, w => eA_ F n P R K e a w
section code
variable {F : Fence} {n : Nat} {P : Program} {N : Nat} {D : List Deferred} {v0 : Vw} {H0 : Hp} {R : Exit → Act → World → Prop} {K : List Kt} {fr : Fr} {H : Hp} {Γ : List Fct}
theorem kI_ (K : List Kt) (a : Act) (w : World) (h : R .ret a w) : eA_ F n P R K .ret a w := by
  induction K with
  | nil => exact h
  | cons x K ih => cases x <;> exact ih
theorem jy_ {c : Code} {K' : List Kt} {a : Act} {w : World} : ∀ {K : List Kt}, nxt K = some (c, K') → c.wpIn F n P (eA_ F n P R K') a w → eA_ F n P R K .normal a w
  | [], h, _ => by simp [nxt] at h
  | .seq _ :: K, h, hp => by simp only [nxt, Option.some.injEq, Prod.mk.injEq] at h; obtain ⟨rfl, rfl⟩ := h; exact hp
  | .blk _ :: K, h, hp => jy_ (K := K) (by simpa [nxt] using h) hp
  | .inv _ :: K, h, _ => by simp [nxt] at h
theorem kJ_ {a : Act} {w : World} : ∀ {K : List Kt}, fp_ K = true → R .normal a w → eA_ F n P R K .normal a w
  | [], _, hp => hp
  | .inv _ :: K, h, _ => by simp [fp_] at h
  | .blk _ :: K, h, hp => kJ_ (K := K) (by simpa [fp_] using h) hp
  | .seq _ :: K, h, _ => by simp [fp_] at h
abbrev hE_ (F : Fence) (n : Nat) (P : Program) (R : Exit → Act → World → Prop) (N : Nat) (D : List Deferred) (v0 : Vw) (H0 : Hp) (c : Code) (K : List Kt) (fr : Fr) (H : Hp) (Γ : List Fct) : Prop :=
  OkD N D v0 H0 (c.wpIn F n P (eA_ F n P R K)) fr H Γ
abbrev rp_ (F : Fence) (n : Nat) (P : Program) (R : Exit → Act → World → Prop) (N : Nat) (D : List Deferred) (v0 : Vw) (H0 : Hp) (K : List Kt) (fr : Fr) (H : Hp) (Γ : List Fct) : Prop :=
  OkD N D v0 H0 (eA_ F n P R K .normal) fr H Γ
abbrev gW_ (F : Fence) (n : Nat) (P : Program) (R : Exit → Act → World → Prop) (N : Nat) (D : List Deferred) (v0 : Vw) (H0 : Hp) (ops : Array Oper) (l : List Oper) (K : List Kt) (fr : Fr) (H : Hp) (Γ : List Fct) : Prop :=
  OkD N D v0 H0 (wpListIn F n P ops (eA_ F n P R K) l) fr H Γ
theorem hR_ {x y : Code} (h : hE_ F n P R N D v0 H0 x (.seq y :: K) fr H Γ) : hE_ F n P R N D v0 H0 (.seq x y) K fr H Γ :=
  fun a v h1 h2 h3 h4 => wpIn_seq (wpIn_mono (h a v h1 h2 h3 h4) fun e a w hq => by cases e <;> exact hq)
theorem nA_ {id : Nat} {c : Code} (h : hE_ F n P R N D v0 H0 c (.blk id :: K) fr H Γ) : hE_ F n P R N D v0 H0 (.block id c) K fr H Γ :=
  fun a v h1 h2 h3 h4 => wpIn_block (wpIn_mono (h a v h1 h2 h3 h4) fun e a w hq => by cases e <;> exact hq)
theorem pa_ (h : rp_ F n P R N D v0 H0 K fr H Γ) : hE_ F n P R N D v0 H0 .skip K fr H Γ :=
  fun a v h1 h2 h3 h4 => wpIn_skip (h a v h1 h2 h3 h4)
theorem mq_ (h : OkD N D v0 H0 (R .ret) fr H Γ) : hE_ F n P R N D v0 H0 .ret K fr H Γ :=
  fun a v h1 h2 h3 h4 => wpIn_ret (kI_ K a v.w (h a v h1 h2 h3 h4))
theorem fT_ {c : Code} {K' : List Kt} (hn : nxt K = some (c, K')) (h : hE_ F n P R N D v0 H0 c K' fr H Γ) : rp_ F n P R N D v0 H0 K fr H Γ :=
  fun a v h1 h2 h3 h4 => jy_ hn (h a v h1 h2 h3 h4)
theorem ig_ (hn : fp_ K = true) (h : OkD N D v0 H0 (R .normal) fr H Γ) : rp_ F n P R N D v0 H0 K fr H Γ :=
  fun a v h1 h2 h3 h4 => kJ_ hn (h a v h1 h2 h3 h4)
theorem dP_ {id : Nat} {l : List Oper} (h : gW_ F n P R N D v0 H0 l.toArray l K fr H Γ) : hE_ F n P R N D v0 H0 (.region id l.toArray false) K fr H Γ :=
  fun a v h1 h2 h3 h4 => wpIn_region_lit (h a v h1 h2 h3 h4)
theorem fn_ {ops : Array Oper} (h : rp_ F n P R N D v0 H0 K fr H Γ) : gW_ F n P R N D v0 H0 ops [] K fr H Γ :=
  fun a v h1 h2 h3 h4 => wpListIn_nil (h a v h1 h2 h3 h4)
theorem mr_ {c : Operand} {x y : Code} (hc : Fr.ev fr c = some (.bool true)) (hx : hE_ F n P R N D v0 H0 x K fr H Γ) : hE_ F n P R N D v0 H0 (.cond c x y) K fr H Γ :=
  fun a v h1 h2 h3 h4 => wpIn_cond_true (h1.sat.ev hc) (hx a v h1 h2 h3 h4)
theorem ms_ {c : Operand} {x y : Code} (hc : Fr.ev fr c = some (.bool false)) (hy : hE_ F n P R N D v0 H0 y K fr H Γ) : hE_ F n P R N D v0 H0 (.cond c x y) K fr H Γ :=
  fun a v h1 h2 h3 h4 => wpIn_cond_false (h1.sat.ev hc) (hy a v h1 h2 h3 h4)
def jL_ : Op → Bool
  | .defer _ => false
  | _ => true
theorem semAt_eq {o : Oper} (h : jL_ o.op = true) (ro : Option Nat) (ρ : Operand → Value) : o.semAt ro ρ = execOp ρ o :=
  Oper.semAt_eq ro ρ o (fun c e => by rw [e] at h; cases h)
variable {ops : Array Oper} {l : List Oper} {d : Nat} {ty : TypeId} {ps : String} {af : Array Edge}
theorem nu_ {o : Oper} {a : Act} {w : World} {K1 K2 : Act → World → Prop} {Q : Exit → Act → World → Prop} (hK : ∀ a w, K1 a w → K2 a w) (h : o.wpIn F n P a w K1 Q) : o.wpIn F n P a w K2 Q := by
  refine ⟨h.1, ?_⟩
  have h2 := h.2
  generalize (o.semAt F.round a.eval).run P w = r at h2 ⊢
  cases r with
  | ok nx w' =>
    cases nx <;> simp only [Oper.uponIn] at h2 ⊢ <;> first | exact hK _ _ h2 | exact h2 | skip
    case enter f args => exact ⟨h2.1, h2.2.mono fun e w'' he => by cases e <;> first | exact hK _ _ he | exact he⟩
    case row row args => exact ⟨h2.1, h2.2.mono fun v w'' he => hK _ _ he⟩
    case round l f tmps assign body => exact ⟨h2.1, h2.2.mono fun e w'' he => by cases e <;> first | exact hK _ _ he | exact he⟩
  | halt x w' => cases x <;> simp only [Oper.uponIn] at h2 ⊢ <;> exact h2
theorem fm_ {o : Oper} (hg : o.guard = none) (h : ∀ a v, SatD N D fr a → v.sat H → v0.to H0 v H → aI_ Γ v → o.wpIn F n P a v.w (wpListIn F n P ops (eA_ F n P R K) l) (eA_ F n P R K)) :
    gW_ F n P R N D v0 H0 ops (o :: l) K fr H Γ :=
  fun a v h1 h2 h3 h4 => wpListIn_plain hg fun K' hK => nu_ hK (h a v h1 h2 h3 h4)
theorem dR_ {op : Op} {x : Value} (hF : Opn F) (he : Yld P N fr H Γ op ty x) (hnd : jL_ op = true) (hN : Nat.blt d N = true)
    (hk : gW_ F n P R N D v0 H0 ops l K ((d, x) :: fr) H Γ) : gW_ F n P R N D v0 H0 ops (⟨some d, op, ty, ps, af, none⟩ :: l) K fr H Γ :=
  fm_ rfl fun a v h1 h2 h3 h4 => by
    refine ⟨fun f _ => hF.fn f, ?_⟩
    rw [semAt_eq hnd]
    have := he ⟨a.tmps, []⟩ v h1.sat h2 h4 (some d) ps af
    rw [show a.eval = Act.eval ⟨a.tmps, []⟩ from rfl, this]
    exact hk _ v (h1.put hN) h2 h3 h4
theorem pw_ {op : Op} {X : Bool} (hF : Opn F) (he : Yld P N fr H Γ op ty (.bool X)) (hnd : jL_ op = true) (hN : Nat.blt d N = true)
    (hk : ∀ r : Bool, X = r → gW_ F n P R N D v0 H0 ops l K ((d, .bool r) :: fr) H Γ) : gW_ F n P R N D v0 H0 ops (⟨some d, op, ty, ps, af, none⟩ :: l) K fr H Γ :=
  dR_ hF he hnd hN (hk X rfl)
theorem nL_ {t : TypeId} {z : Value} (hF : Opn F) (hz : ∀ w, (zeroValue t).run P w = .ok z w) (hN : Nat.blt d N = true)
    (hk : ∀ b, gW_ F n P R N D v0 H0 ops l K ((d, .pointer (some ⟨b, 0, none⟩)) :: fr) ((b, .cells z.cells t (0, 0)) :: H) Γ) : gW_ F n P R N D v0 H0 ops (⟨some d, .alloc t, ty, ps, af, none⟩ :: l) K fr H Γ :=
  fm_ rfl fun a v h1 h2 h3 h4 => by
    refine ⟨fun f _ => hF.fn f, ?_⟩
    rw [semAt_eq rfl]
    have he : (execOp a.eval ⟨some d, .alloc t, ty, ps, af, none⟩).run P v.w = .ok (.value (.pointer (some ⟨v.w.heap.size, 0, none⟩))) (v.w.alloc (.cells z.cells t (0, 0))) := by
      simp [execOp, hz, Instr.alloc, newVar, newRow, newObj]; rfl
    rw [he]
    obtain ⟨g1, g2⟩ := ja_ (w' := v.w.alloc (.cells z.cells t (0, 0))) (o := .cells z.cells t (0, 0)) h2 rfl rfl rfl rfl (Nat.le_refl _)
    exact hk v.w.heap.size _ ⟨v.im, _, v.sl⟩ (h1.put hN) g1 (h3.trans g2) (bC_ (g2.le h2) h4)
theorem hx_ {t : TypeId} {x y : Operand} {b off m : Nat} (hF : Opn F) (i : Nat) {cur : Array Value} {T : TypeId} {u : Value} (hs : ∀ w, (sizeOf t).run P w = .ok m w)
    (hx : Fr.ev fr x = some (.pointer (some ⟨b, off, none⟩))) (hy : Fr.ev fr y = some u) (hi : H[i]? = some (b, .cells cur T (0, 0))) (hn : u.cells.size = m) (hf : Nat.ble (off + m) cur.size = true) (h1c : u.cells.toList.all Value.oneCell' = true)
    (hk : gW_ F n P R N D v0 H0 ops l K fr (H.set i (b, .cells (cur.toList.take off ++ u.cells.toList ++ cur.toList.drop (off + m)).toArray T (0, 0))) Γ) :
    gW_ F n P R N D v0 H0 ops (⟨none, .store t x y, ty, ps, af, none⟩ :: l) K fr H Γ :=
  fm_ rfl fun a v h1 h2 h3 h4 => by
    refine ⟨fun f _ => hF.fn f, ?_⟩
    rw [semAt_eq rfl]
    have hb := (h2.own _ (List.mem_of_getElem? hi)).1
    have hst := run_storeCells_at P b off T u.cells.toList 0 cur v.w hb (by simp [hn]; exact Nat.le_of_ble_eq_true hf) (fun c hc => List.all_eq_true.1 h1c c hc)
    have he : (execOp a.eval ⟨none, .store t x y, ty, ps, af, none⟩).run P v.w = .ok .skip (v.w.setRow b (cur.toList.take off ++ u.cells.toList ++ cur.toList.drop (off + m)).toArray) := by
      simp only [Nat.add_zero, Array.length_toList, hn] at hst
      have e1 : a.eval x = .pointer (some ⟨b, off, none⟩) := h1.sat.ev hx
      have e2 : a.eval y = u := h1.sat.ev hy
      simp [execOp, e1, e2, Instr.storeAt, Instr.sureAddr, storeVar, hs, hn, hst]
    rw [he]
    obtain ⟨g1, g2⟩ := gf_ (w' := v.w.setRow b (cur.toList.take off ++ u.cells.toList ++ cur.toList.drop (off + m)).toArray) h2 hi rfl rfl rfl (Nat.le_refl _) (by simp) (setRow_heap _ _ _ _ _ _ hb) (fun k hk => setRow_other _ _ _ _ hk)
    exact hk a _ h1 g1 (h3.trans g2) (bC_ (g2.le h2) h4)
theorem px_ {r : Nat} {f : FuncId} {xs : List Operand} {ats : Array TypeId} {vs : List Value} {ι : Type} {Hc G : Hp} {Γc : List Fct} {ret : ι → Value} {H' : ι → Hp} {Γ' : ι → List Fct}
    (hT : Tri P f vs.toArray Hc Γc ret H' Γ') (hx : Fr.evs fr xs = some vs) (hH : H.Perm (Hc ++ G)) (hΓ : ∀ v, v.sat H → aI_ Γ v → aI_ Γc v) (hN : Nat.blt d N = true)
    (hk : ∀ x, gW_ (Fence.wide.inRound r) n P R N D v0 H0 ops l K ((d, ret x) :: fr) (H' x ++ G) (Γ' x ++ Γ)) :
    gW_ (Fence.wide.inRound r) n P R N D v0 H0 ops (⟨some d, .call ⟨.value (.func f), xs.toArray, ats⟩, ty, ps, af, none⟩ :: l) K fr H Γ :=
  fm_ rfl fun a v h1 h2 h3 h4 => by
    refine ⟨fun f _ => trivial, ?_⟩
    rw [semAt_eq rfl]
    have he : (execOp a.eval ⟨some d, .call ⟨.value (.func f), xs.toArray, ats⟩, ty, ps, af, none⟩).run P v.w = .ok (.enter f vs.toArray) v.w := by
      have e1 : xs.map a.eval = vs := h1.sat.evs hx
      simp [execOp, resolve, Deferred.ofValue, Act.eval, invoke, e1, hT.callable _ v.w]
    rw [he]
    have h2' := h2.perm hH
    refine ⟨fun h => (by cases h), (lO_ (F := Fence.wide) (hT.run v h2'.sub (hΓ v h2 h4)) r).mono ?_⟩
    rintro e w' ⟨x, v', rfl, rfl, g1, g2, g3⟩
    obtain ⟨k1, k2⟩ := g3.frame h2' g1
    exact hk x _ v' (h1.put hN) k1 (h3.trans (k2.permL hH.symm)) (eX_.2 ⟨g2, bC_ (k2.le h2') h4⟩)
def pQ_ (P : Program) (l : Nat) (x : Value) (H : Hp) (Γ : List Fct) {ι : Type} (ret : ι → Value) (H' : ι → Hp) (Γ' : ι → List Fct) : Prop :=
  ∀ v, v.sat H → aI_ Γ v → ∃ fn tmps assign body, (Instr.yield l #[x]).run P v.w = .ok (.round l fn tmps assign body) v.w ∧
    ∀ n, RoundIn Fence.wide n P l fn tmps assign body v.w fun e w' => ∃ x v', e = .returned (ret x) ∧ v'.w = w' ∧ v'.sat (H' x) ∧ aI_ (Γ' x) v' ∧ v.to H v' (H' x)
theorem jI_ {r : Nat} {g y : Operand} {ats : Array TypeId} {u : Value} {ι : Type} {Hc G : Hp} {Γc : List Fct} {ret : ι → Value} {H' : ι → Hp} {Γ' : ι → List Fct}
    (hT : pQ_ P r u Hc Γc ret H' Γ') (hg : Fr.ev fr g = some (.func (.yield r) #[] #[])) (hy : Fr.ev fr y = some u) (hH : H.Perm (Hc ++ G)) (hΓ : ∀ v, v.sat H → aI_ Γ v → aI_ Γc v) (hN : Nat.blt d N = true)
    (hk : ∀ x, gW_ Fence.wide n P R N D v0 H0 ops l K ((d, ret x) :: fr) (H' x ++ G) (Γ' x ++ Γ)) :
    gW_ Fence.wide n P R N D v0 H0 ops (⟨some d, .call ⟨.value g, #[y], ats⟩, ty, ps, af, none⟩ :: l) K fr H Γ :=
  fm_ rfl fun a v h1 h2 h3 h4 => by
    refine ⟨fun f _ => trivial, ?_⟩
    rw [semAt_eq rfl]
    have h2' := h2.perm hH
    obtain ⟨fn, tmps, assign, body, hyr, hR⟩ := hT v h2'.sub (hΓ v h2 h4)
    have he : (execOp a.eval ⟨some d, .call ⟨.value g, #[y], ats⟩, ty, ps, af, none⟩).run P v.w = .ok (.round r fn tmps assign body) v.w := by
      have e1 : a.eval g = .func (.yield r) #[] #[] := h1.sat.ev hg
      have e2 : a.eval y = u := h1.sat.ev hy
      simp [execOp, resolve, Deferred.ofValue, e1, e2, invoke, hyr]
    rw [he]
    refine ⟨fun h => (by cases h), (hR _).mono ?_⟩
    rintro e w' ⟨x, v', rfl, rfl, g1, g2, g3⟩
    obtain ⟨k1, k2⟩ := g3.frame h2' g1
    exact hk x _ v' (h1.put hN) k1 (h3.trans (k2.permL hH.symm)) (eX_.2 ⟨g2, bC_ (k2.le h2') h4⟩)
theorem ll_ {k : Act → World → Prop} : OkD N [] v0 H0 k fr H Γ ↔ Ok N v0 H0 k fr H Γ :=
  ⟨fun h a v h1 h2 h3 h4 => h a v ⟨⟨h1.size, rfl, h1.val⟩, h1.defers⟩ h2 h3 h4, fun h a v h1 h2 h3 h4 => h a v ⟨h1.sat.size, h1.defers, h1.sat.val⟩ h2 h3 h4⟩
end code
end Go.Sx
namespace Go.Sx
open Go
section
variable {P : Program} {N : Nat} {v0 : Vw} {H0 : Hp} {R : Exit → Act → World → Prop} {K : List Kt} {fr : Fr} {H F : Hp} {Γ : List Fct}
theorem hb_ {v : Vw} {l : Nat} {o o' : Obj} (h : v.sat ((l, o) :: F)) : (⟨v.im, v.w.putObj l o', v.sl⟩ : Vw).sat ((l, o') :: F) ∧ v.to ((l, o) :: F) ⟨v.im, v.w.putObj l o', v.sl⟩ ((l, o') :: F) := by
  have hl := (h.own (l, o) List.mem_cons_self).1
  have := gf_ (i := 0) (o' := o') (w' := v.w.putObj l o') h rfl rfl rfl rfl (Nat.le_refl _) (by simp) (World.putObj_heap_same (Array.getElem?_eq_some_iff.1 hl).1) (fun k hk => World.putObj_heap_other hk)
  simpa using this
theorem mn_ {ι : Type} {c : Code} (frs : ι → Fr) (Hs : ι → Hp) (Γs : ι → List Fct) (h1 : hE_ Fence.wide 0 P (Mid N v0 H0 frs Hs Γs) N [] v0 H0 c [] fr H Γ) (h2 : ∀ i, Fin P R N v0 H0 K (frs i) (Hs i) (Γs i)) : Run P R N v0 H0 c K fr H Γ := by
  intro a v g1 g2 g3 g4
  refine wp_mono (wpIn_wide.1 (ll_.1 h1 a v g1 g2 g3 g4)) ?_
  rintro e a' w' ⟨rfl, i, v', rfl, k1, k2, k3, k4⟩
  exact h2 i a' v' k1 k2 k3 k4
def oj_ {σ τ : Type} (v0 : Vw) (H0 : Hp) (Hj : σ → Hp) (Hx : τ → Hp) (HL : Hp) (res : σ ⊕ τ) : Exit → Act → World → Prop
  | .normal, _, w => ∃ s' v, res = .inl s' ∧ v.w = w ∧ v.sat (Hj s' ++ HL) ∧ v0.to H0 v (Hj s' ++ HL)
  | .ret, _, w => ∃ t v, res = .inr t ∧ v.w = w ∧ v.sat (Hx t ++ HL) ∧ v0.to H0 v (Hx t ++ HL)
  | _, _, _ => False
def nb_ {σ τ : Type} (Gj : σ → Hp) (Gx : τ → Hp) : σ ⊕ τ → Hp
  | .inl s => Gj s
  | .inr t => Gx t
def HLp (l D : Nat) (r : Loop) : Hp := [(l, .loop r), (D, .deferred (some []))]
theorem ns_ {σ τ ι : Type} {l D : Nat} {rec : Loop} {pm : Nat} {x : Value} {Hj : σ → Hp} {Hx : τ → Hp} {s : σ} {res : σ ⊕ τ} (frA : ι → Fr) (HA : ι → Hp)
  (hp : rec.params = #[pm]) (hst : rec.state = .ready) (hpe : rec.pending = none) (ht : Fr.sat N fr ⟨rec.tmps, []⟩) (hpm : Nat.blt pm N = true)
  (hassign : ∀ n v0 H0 HL, hE_ (Fence.wide.inRound l) n P (Mid N v0 H0 frA (fun i => HA i ++ HL) (fun _ => Γ)) N [] v0 H0 rec.assign [] ((pm, x) :: fr) (Hj s ++ HL) Γ)
  (hbody : ∀ n v0 H0 HL i, hE_ (Fence.wide.inRound l) n P (oj_ v0 H0 Hj Hx HL res) N [] v0 H0 rec.body [] (frA i) (HA i ++ HL) Γ) :
  pQ_ P l x (Hj s ++ HLp l D rec) Γ (fun _ : Unit => .bool res.isLeft) (fun _ => nb_ (fun s' => Hj s' ++ HLp l D rec) (fun t => Hx t ++ HLp l D { rec with state := .done, pending := some .ret }) res) (fun _ => []) := by
 intro v hs hΓ
 have hpl : ∀ (X : Hp) r, (X ++ HLp l D r).Perm ((l, .loop r) :: (X ++ [(D, .deferred (some []))])) := fun X r => by
  unfold HLp
  exact List.perm_middle
 have hl : v.w.heap[l]? = some (.loop rec) := ((hs.perm (hpl _ _)).own _ List.mem_cons_self).1
 refine ⟨rec.fn, _, rec.assign, rec.body, run_yield hl (by simp [hp]), fun n => roundIn_of_wpIn trivial ?_⟩
 have htm : (rec.params.zip #[x]).foldl (fun tmps (t, a) => tmps.setIfInBounds t a) rec.tmps = rec.tmps.setIfInBounds pm x := by simp [hp]
 rw [htm]
 have hsat : Fr.sat N ((pm, x) :: fr) ⟨rec.tmps.setIfInBounds pm x, []⟩ := ht.put hpm
 refine wpIn_mono (ll_.1 (hassign n v (Hj s ++ HLp l D rec) (HLp l D rec)) ⟨rec.tmps.setIfInBounds pm x, []⟩ v hsat hs (Vw.to.refl _ _) hΓ) ?_
 rintro e a1 w1 ⟨rfl, i, v1, rfl, k1, k2, k3, k4⟩
 have k2' := k2.perm (hpl _ _)
 have hl1 := (k2'.own _ List.mem_cons_self).1
 obtain ⟨m1, m2⟩ := hb_ (o' := .loop { rec with state := .busy }) k2'
 refine ⟨_, run_beginRound hl1 hst, ?_⟩
 have m3 := m1.perm (hpl (HA i) { rec with state := .busy }).symm
 have m4 : v.to (Hj s ++ HLp l D rec) ⟨v1.im, v1.w.putObj l (.loop { rec with state := .busy }), v1.sl⟩ (HA i ++ HLp l D { rec with state := .busy }) :=
  (k3.trans ((m2.permL (hpl _ _).symm).subR fun b hb => ((hpl (HA i) { rec with state := .busy }).map Prod.fst).mem_iff.1 hb))
 have k4' := bC_ (m2.le k2') k4
 refine wpIn_mono (ll_.1 (hbody n v (Hj s ++ HLp l D rec) (HLp l D { rec with state := .busy }) i) a1 ⟨v1.im, _, v1.sl⟩ k1 m3 m4 k4') ?_
 intro e2 a2 w2 hq
 cases e2 with
 | normal =>
  obtain ⟨s', v2, rfl, rfl, q1, q2⟩ := hq
  have q1' := q1.perm (hpl _ _)
  have hl2 := (q1'.own _ List.mem_cons_self).1
  obtain ⟨z1, z2⟩ := hb_ (o' := .loop rec) q1'
  have er : ({ rec with state := .ready, pending := none } : Loop) = rec := by cases rec; simp_all
  refine ⟨_, _, run_endRound none hl2, (), ⟨v2.im, v2.w.putObj l (.loop rec), v2.sl⟩, rfl, ?_, z1.perm (hpl _ _).symm, trivial, q2.trans ((z2.permL (hpl _ _).symm).subR fun b hb => ((hpl (Hj s') rec).map Prod.fst).mem_iff.1 hb)⟩
  simp [er]
 | ret =>
  obtain ⟨t, v2, rfl, rfl, q1, q2⟩ := hq
  have q1' := q1.perm (hpl _ _)
  have hl2 := (q1'.own _ List.mem_cons_self).1
  obtain ⟨z1, z2⟩ := hb_ (o' := .loop { rec with state := .done, pending := some .ret }) q1'
  exact ⟨_, _, run_endRound (some .ret) hl2, (), ⟨v2.im, v2.w.putObj l (.loop { rec with state := .done, pending := some .ret }), v2.sl⟩, rfl, rfl, z1.perm (hpl _ _).symm, trivial,
   q2.trans ((z2.permL (hpl _ _).symm).subR fun b hb => ((hpl (Hx t) { rec with state := .done, pending := some .ret }).map Prod.fst).mem_iff.1 hb)⟩
 | exit id => exact hq.elim
 | goto t => exact hq.elim
 | panic c => exact hq.elim
 | outgrown => exact hq.elim
theorem bN_ {n : Nat} : ∀ (K : List Kt) (e : Exit) (a : Act) (w : World), eA_ Fence.wide n P R K e a w → post P R K e a w
  | [], _, _, _, h => h
  | .seq c :: K, .normal, a, w, h => wp_mono (wpIn_wide.1 h) (fun e a w hq => bN_ K e a w hq)
  | .seq _ :: K, .exit _, a, w, h => bN_ K _ a w h
  | .seq _ :: K, .goto _, a, w, h => bN_ K _ a w h
  | .seq _ :: K, .ret, a, w, h => bN_ K _ a w h
  | .seq _ :: K, .panic _, a, w, h => bN_ K _ a w h
  | .seq _ :: K, .outgrown, a, w, h => bN_ K _ a w h
  | .inv J :: _, .normal, _, _, h => h
  | .inv _ :: K, .exit _, a, w, h => bN_ K _ a w h
  | .inv _ :: K, .goto _, a, w, h => bN_ K _ a w h
  | .inv _ :: K, .ret, a, w, h => bN_ K _ a w h
  | .inv _ :: K, .panic _, a, w, h => bN_ K _ a w h
  | .inv _ :: K, .outgrown, a, w, h => bN_ K _ a w h
  | .blk id :: K, .exit id', a, w, h => by
    simp only [eA_, post] at h ⊢
    split
    · rename_i e; rw [if_pos e] at h; exact bN_ K _ a w h
    · rename_i e; rw [if_neg e] at h; exact bN_ K _ a w h
  | .blk _ :: K, .normal, a, w, h => bN_ K _ a w h
  | .blk _ :: K, .goto _, a, w, h => bN_ K _ a w h
  | .blk _ :: K, .ret, a, w, h => bN_ K _ a w h
  | .blk _ :: K, .panic _, a, w, h => bN_ K _ a w h
  | .blk _ :: K, .outgrown, a, w, h => bN_ K _ a w h
def rZ_ (D : Nat) : List Deferred := [{ target := .collected D, args := #[] }]
theorem oZ_ {σ τ α : Type} {g : Operand} {pm : Nat} {assign body : Code} {gf : FuncId} {caps : List Value} {Hj : σ → Hp} {Hx : τ → Hp} {Hc : Hp} {Γx : α → List Fct} {Γi : List Fct} {xv : α → Value} {good : α → Prop} {stp : α → σ → σ ⊕ τ}
    (s0 : σ) (res : σ ⊕ τ) (hg : Fr.ev fr g = some (.func (.func gf) #[] caps.toArray)) (hH : H.Perm (Hc ++ Hj s0)) (hΓi : ∀ v, v.sat H → aI_ Γ v → aI_ Γi v)
    (hround : ∀ l D (rec : Loop), rec.params = #[pm] → rec.state = .ready → rec.pending = none → Fr.sat N fr ⟨rec.tmps, []⟩ → rec.assign = assign → rec.body = body → ∀ s x, good x →
      pQ_ P l (xv x) (Hj s ++ HLp l D rec) (Γx x) (fun _ : Unit => .bool (stp x s).isLeft) (fun _ => nb_ (fun s' => Hj s' ++ HLp l D rec) (fun t => Hx t ++ HLp l D { rec with state := .done, pending := some .ret }) (stp x s)) (fun _ => []))
    (hit : ∀ l (Gj : σ → Hp) (Gx : τ → Hp), (∀ s x, good x → pQ_ P l (xv x) (Gj s) (Γx x) (fun _ : Unit => .bool (stp x s).isLeft) (fun _ => nb_ Gj Gx (stp x s)) (fun _ => [])) →
      Tri P gf (.func (.yield l) #[] #[] :: caps).toArray (Hc ++ Gj s0) Γi (fun _ : Unit => .tuple #[]) (fun _ => Hc ++ nb_ Gj Gx res) (fun _ => []))
    (hnext : ∀ s', res = .inl s' → ∀ D l r, rp_ Fence.wide 0 P R N (rZ_ D) v0 H0 K fr (Hc ++ Hj s' ++ HLp l D r) Γ)
    (hret : ∀ t, res = .inr t → ∀ D l r, OkD N (rZ_ D) v0 H0 (R .ret) fr (Hc ++ Hx t ++ HLp l D r) Γ) :
    Run P R N v0 H0 (.rangeFunc g #[pm] assign body) K fr H Γ := by
  intro a v h1 h2 h3 h4
  refine wpIn_wide (n := 0) |>.1 (wpIn_mono (Q := eA_ Fence.wide 0 P R K) (wpIn_rangeFunc fun fn _ => ?_) fun e a w hq => bN_ K e a w hq)
  obtain ⟨a1, a2⟩ := ja_ (w' := v.w.alloc (.deferred (some []))) (o := .deferred (some [])) h2 rfl rfl rfl rfl (Nat.le_refl _)
  obtain ⟨rec, hrec⟩ : ∃ rec : Loop, rec = { state := .ready, pending := none, fn, tmps := a.tmps, params := #[pm], assign, body, defers := v.w.heap.size } := ⟨_, rfl⟩
  obtain ⟨b1, b2⟩ := ja_ (w' := (v.w.alloc (.deferred (some []))).alloc (.loop rec)) (o := .loop rec) a1 rfl rfl rfl rfl (Nat.le_refl _)
  have hsz : (v.w.alloc (Obj.deferred (some []))).heap.size = v.w.heap.size + 1 := by simp
  have b1' : (⟨v.im, (v.w.alloc (.deferred (some []))).alloc (.loop rec), v.sl⟩ : Vw).sat ((v.w.heap.size + 1, .loop rec) :: (v.w.heap.size, .deferred (some [])) :: H) := hsz ▸ b1
  have b2' : v.to H ⟨v.im, (v.w.alloc (.deferred (some []))).alloc (.loop rec), v.sl⟩ ((v.w.heap.size + 1, .loop rec) :: (v.w.heap.size, .deferred (some [])) :: H) := a2.trans (hsz ▸ b2)
  have hperm : ((v.w.heap.size + 1, Obj.loop rec) :: (v.w.heap.size, .deferred (some [])) :: H).Perm (Hc ++ (Hj s0 ++ HLp (v.w.heap.size + 1) v.w.heap.size rec)) := by
    rw [← List.append_assoc]
    exact (List.perm_append_comm (l₁ := HLp (v.w.heap.size + 1) v.w.heap.size rec) (l₂ := H)).trans (hH.append_right _)
  have hT := hit (v.w.heap.size + 1) (fun s => Hj s ++ HLp (v.w.heap.size + 1) v.w.heap.size rec) (fun t => Hx t ++ HLp (v.w.heap.size + 1) v.w.heap.size { rec with state := .done, pending := some .ret })
    (hround _ _ rec (by rw [hrec]) (by rw [hrec]) (by rw [hrec]) (by rw [hrec]; exact ⟨h1.size, rfl, h1.val⟩) (by rw [hrec]) (by rw [hrec]))
  have hΓ2 := bC_ (b2'.le h2) (hΓi v h2 h4)
  have hΓ3 := bC_ (b2'.le h2) h4
  have he := h1.ev hg
  refine ⟨v.w.heap.size + 1, rZ_ v.w.heap.size, (v.w.alloc (.deferred (some []))).alloc (.loop rec), ⟨.fn (.func gf) caps.toArray, #[.func (.yield (v.w.heap.size + 1)) #[] #[]]⟩, (v.w.alloc (.deferred (some []))).alloc (.loop rec), gf, (.func (.yield (v.w.heap.size + 1)) #[] #[] :: caps).toArray, _, ?_, ?_, fun _ _ => trivial, ?_, fun h => (by cases h), callsIn_wide.2 ((hT.run ⟨v.im, _, v.sl⟩ (b1'.perm hperm) hΓ2).mono ?_)⟩
  · rw [hrec]; exact run_enterLoop_outer _ _ _ _ _
  · simp only [resolve, rangeCall, List.map_toArray, List.map_cons, List.map_nil, he, Deferred.ofValue]
    rfl
  · have := hT.callable (.func (.yield (v.w.heap.size + 1)) #[] #[] :: caps).toArray ((v.w.alloc (.deferred (some []))).alloc (.loop rec))
    simpa [invoke] using this
  · rintro e w' ⟨_, v', rfl, rfl, g1, g2, g3⟩
    have g3' := b2'.trans (g3.permL hperm.symm)
    have hΓ4 := bC_ (g3'.le h2) h4
    have hsd : ∀ D', SatD N D' fr { a with defers := D' ++ a.defers } := fun D' => ⟨⟨h1.size, rfl, h1.val⟩, by show D' ++ a.defers = D'; rw [h1.defers]; simp⟩
    have hpl : ∀ (X Y : Hp) r, (Y ++ (X ++ HLp (v.w.heap.size + 1) v.w.heap.size r)).Perm ((v.w.heap.size + 1, .loop r) :: (Y ++ X ++ [(v.w.heap.size, .deferred (some []))])) := fun X Y r => by
      unfold HLp
      rw [← List.append_assoc]
      exact List.perm_middle
    cases res with
    | inl s' =>
      have q := g1.perm (hpl (Hj s') Hc rec)
      have hl := (q.own _ List.mem_cons_self).1
      obtain ⟨z1, z2⟩ := hb_ (o' := .loop { rec with state := .exhausted }) q
      have zp : ((v.w.heap.size + 1, Obj.loop { rec with state := .exhausted }) :: (Hc ++ Hj s' ++ [(v.w.heap.size, .deferred (some []))])).Perm (Hc ++ Hj s' ++ HLp (v.w.heap.size + 1) v.w.heap.size { rec with state := .exhausted }) := by
        have := (hpl (Hj s') Hc { rec with state := .exhausted }).symm
        rw [← List.append_assoc] at this
        exact this
      refine ⟨rec.pending, _, run_endLoop hl (by rw [hrec]; simp), ?_⟩
      have hpn : rec.pending = none := by rw [hrec]
      split
      case h_2 => rename_i c hc; rw [hpn] at hc; cases hc
      exact hnext s' rfl _ _ _ _ ⟨v'.im, _, v'.sl⟩ (hsd _) (z1.perm zp) (h3.trans (g3'.trans ((z2.permL (hpl _ _ _).symm).subR fun b hb => (zp.map Prod.fst).mem_iff.2 hb))) (bC_ (z2.le q) hΓ4)
    | inr t =>
      have q := g1.perm (hpl (Hx t) Hc _)
      have hl := (q.own _ List.mem_cons_self).1
      obtain ⟨z1, z2⟩ := hb_ (o' := .loop { rec with state := .exhausted, pending := some .ret }) q
      have zp : ((v.w.heap.size + 1, Obj.loop { rec with state := .exhausted, pending := some .ret }) :: (Hc ++ Hx t ++ [(v.w.heap.size, .deferred (some []))])).Perm (Hc ++ Hx t ++ HLp (v.w.heap.size + 1) v.w.heap.size { rec with state := .exhausted, pending := some .ret }) := by
        have := (hpl (Hx t) Hc { rec with state := .exhausted, pending := some .ret }).symm
        rw [← List.append_assoc] at this
        exact this
      refine ⟨some .ret, _, run_endLoop hl (by simp), ?_⟩
      refine wpIn_ret (kI_ K _ _ (hret t rfl _ _ _ _ ⟨v'.im, _, v'.sl⟩ (hsd _) (z1.perm zp) (h3.trans (g3'.trans ((z2.permL (hpl _ _ _).symm).subR fun b hb => (zp.map Prod.fst).mem_iff.2 hb))) (bC_ (z2.le q) hΓ4)))
theorem ld_ {f : FuncId} {fn : Func} {c : Code} {args : List Value} {ι : Type} {ret : ι → Value} {H' : ι → Hp} {Γ' : ι → List Fct}
    (hf : P.funcs[f]? = some fn) (hb : fn.body = some c) (hn : (fn.name == "runtime.NumGoroutine") = false) (hN : fn.ntmps = N) (hl : Nat.ble args.length N = true)
    (h : ∀ v0, Run P (bodyPostM Fence.wide 0 P fn (iZ_ v0 H ret H' Γ')) N v0 H c [] (iA_ 0 args) H Γ) : Tri P f args.toArray H Γ ret H' Γ' := by
  refine ⟨callable hf hb hn, fun v h1 h2 => callsIn_wide.1 (callsIn_of_wp_marks (n := 0) hf hb trivial ?_)⟩
  have hl' : args.length ≤ N := Nat.le_of_ble_eq_true hl
  have := h v ⟨args.toArray ++ Array.replicate (fn.ntmps - args.toArray.size) undef, []⟩ v ⟨by simp [hN]; omega, rfl, fun t x ht => ?_⟩ h1 (Vw.to.refl _ _) h2
  · exact wpIn_wide.2 this
  · obtain ⟨_, h4⟩ := hB_ args 0 t x ht
    simp only [Nat.sub_zero] at h4
    have hlt := (List.getElem?_eq_some_iff.1 h4).1
    rw [Array.getElem?_append_left (by simpa using hlt)]
    simpa using h4
theorem retM {fn : Func} {ι : Type} {G : Hp} {ret : ι → Value} {H' : ι → Hp} {Γ' : ι → List Fct} (x : ι) (hx : ∀ (a : Act) (v : Vw), Fr.sat N fr a → v.sat H → aI_ Γ v → (results fn a.tmps).run P v.w = .ok (ret x) v.w) (hH : H.Perm (H' x ++ G))
    (hΓ : ∀ v, v.sat H → aI_ Γ v → aI_ (Γ' x) v) : Ok N v0 H0 (bodyPostM Fence.wide 0 P fn (iZ_ v0 H0 ret H' Γ') .ret) fr H Γ := by
  intro a v h1 h2 h3 h4
  show LeavesInM Fence.wide 0 P fn a.tmps _ a.defers .returning v.w
  rw [h1.defers]
  exact ⟨ret x, hx a v h1 h2 h4, x, v, rfl, rfl, (h2.perm hH).sub, hΓ v h2 h4, h3.subR fun b hb => by
    have : b ∈ (H' x ++ G).map Prod.fst := by rw [List.map_append]; exact List.mem_append_left _ hb
    exact (hH.map Prod.fst).mem_iff.2 this⟩
theorem sF_ {fn : Func} {ι : Type} {D : Nat} {G : Hp} {ret : ι → Value} {H' : ι → Hp} {Γ' : ι → List Fct} (x : ι) (hx : ∀ (a : Act) (v : Vw), Fr.sat N fr a → v.sat G → (results fn a.tmps).run P v.w = .ok (ret x) v.w) (hH : H.Perm ((D, .deferred (some [])) :: (G)))
    (hG : ∃ G', G.Perm (H' x ++ G')) (hΓ : Γ' x = []) : OkD N (rZ_ D) v0 H0 (bodyPostM Fence.wide 0 P fn (iZ_ v0 H0 ret H' Γ') .ret) fr H Γ := by
  intro a v h1 h2 h3 h4
  show LeavesInM Fence.wide 0 P fn a.tmps _ a.defers .returning v.w
  rw [h1.defers]
  have q := h2.perm hH
  have hl := (q.own _ List.mem_cons_self).1
  obtain ⟨z1, z2⟩ := hb_ (o' := .deferred none) q
  have z3 : (⟨v.im, v.w.putObj D (.deferred none), v.sl⟩ : Vw).sat G := ⟨fun p hp => z1.own p (List.mem_cons_of_mem _ hp), by have := z1.nodup; rw [List.map_cons, List.nodup_cons] at this; exact this.2, z1.lt⟩
  obtain ⟨G', hG'⟩ := hG
  refine ⟨by simp, .inl ⟨D, _, rfl, run_takeDeferred hl, ret x, ?_, x, ⟨v.im, _, v.sl⟩, rfl, rfl, (z3.perm hG').sub, by rw [hΓ]; trivial, ?_⟩⟩
  · exact hx ⟨a.tmps, []⟩ ⟨v.im, _, v.sl⟩ h1.sat z3
  · refine (h3.trans (z2.permL hH.symm)).subR fun b hb => ?_
    have : b ∈ (H' x ++ G').map Prod.fst := by rw [List.map_append]; exact List.mem_append_left _ hb
    rw [List.map_cons]
    exact List.mem_cons_of_mem _ ((hG'.map Prod.fst).mem_iff.2 this)
end
end Go.Sx
namespace Go.Vs
abbrev Str := List UInt8
def ey_ (c : UInt8) : Bool := (decide (97 ≤ c.toNat) && decide (c.toNat ≤ 122)) || (decide (65 ≤ c.toNat) && decide (c.toNat ≤ 90))
def eQ_ (c : UInt8) : Bool := ey_ c || decide (c.toNat = 95) || (decide (48 ≤ c.toNat) && decide (c.toNat ≤ 57))
def iG_ (s : Str) : Bool := s.all eQ_
def kws : List Str := [[97, 110, 100], [115, 111, 109, 101], [105, 110], [116, 111], [110, 111, 116, 104, 105, 110, 103], [101, 118, 101, 114, 121, 116, 104, 105, 110, 103], [111, 110, 101], [111, 102], [111, 112, 101, 110], [112, 114, 105, 118, 97, 116, 101], [115, 117, 98], [115, 97, 109, 101], [100, 105, 115, 106, 111, 105, 110, 116], [100, 111, 109, 97, 105, 110], [114, 111, 108, 101], [99, 104, 97, 105, 110], [114, 101, 102, 108, 101, 120, 105, 118, 101], [116, 121, 112, 101], [108, 105, 110, 107], [115, 101, 108, 101, 99, 116], [119, 104, 101, 114, 101], [111, 114]]
def bQ_ (s : Str) : Bool := kws.contains s
def gD_ (s : Str) : Bool := !(s == []) && ey_ (s.headD 0) && iG_ s && !bQ_ s
def cU_ (s : Str) : Bool := decide (2 ≤ s.length) && decide (s.length ≤ 24) && decide ((s.headD 0).toNat = 95) && iG_ s
def ixS (c : UInt8) : Str → Option Nat
  | [] => none
  | b :: s => if b = c then some 0 else (ixS c s).map (· + 1)
def bL_ (s : Str) : Bool := decide (s.length ≤ 24) && match ixS 58 s with
  | none => gD_ s
  | some k => gD_ (s.take k) && gD_ (s.drop (k + 1))
def bi_ (s : Str) : Bool := bL_ s || cU_ s
theorem jc_ (c : UInt8) : ∀ s : Str, Lib.indexByte s c = match ixS c s with | none => -1 | some k => (k : Int)
  | [] => rfl
  | b :: s => by
    have ih := jc_ c s
    simp only [Lib.indexByte, ixS]
    by_cases h : b = c
    · simp [h]
    · simp only [beq_iff_eq, h, if_false]
      cases hx : ixS c s with
      | none => rw [hx] at ih; simp [ih]
      | some k => rw [hx] at ih; simp only [ih]; rw [if_neg (by omega)]; simp
theorem nR_ {c : UInt8} : ∀ {s : Str} {k : Nat}, ixS c s = some k → k < s.length
  | [], k, h => by simp [ixS] at h
  | b :: s, k, h => by
    simp only [ixS] at h
    split at h
    · simp at h; subst h; simp
    · cases hx : ixS c s with
      | none => rw [hx] at h; simp at h
      | some j => rw [hx] at h; simp at h; subst h; have := nR_ hx; simp; omega
theorem fB_ (p : UInt8 → Bool) (s : Str) (k : Nat) (c : UInt8) (hc : s[k]? = some c) (h : (s.take k).all p = true) (hp : p c = true) : (s.take (k + 1)).all p = true := by
  rw [List.take_add_one, hc]; simp_all
theorem hL_ (p : UInt8 → Bool) (s : Str) (k : Nat) (c : UInt8) (hc : s[k]? = some c) (hp : p c = false) : s.all p = false := by
  rw [List.all_eq_false]
  exact ⟨c, List.mem_of_getElem? hc, by simp [hp]⟩
theorem le_ (p : UInt8 → Bool) (s : Str) (k : Nat) (hk : s.length ≤ k) (h : (s.take k).all p = true) : s.all p = true := by
  rwa [List.take_of_length_le hk] at h
theorem qI_ {m : Str} {r : List Value} {k : Nat} {c : UInt8} (h : m[k]? = some c) : Sx.lg (Sx.bytesV m ++ r) k = some (.int .u8 (c.toNat : Int)) := by
  have hk : k < m.length := (List.getElem?_eq_some_iff.1 h).1
  rw [Sx.lg_eq, List.getElem?_append_left (by simpa [Sx.bytesV] using hk)]
  simp [Sx.bytesV, h]
end Go.Vs
namespace Go.Vs
open Go Go.Sx
inductive Con where
  | mk (kind : Int) (name : Str) (lo hi : Int) (ad : Option Addr) (cap : Nat) (parts : List Con)
namespace Con
def kind : Con → Int | mk k _ _ _ _ _ _ => k
def name : Con → Str | mk _ n _ _ _ _ _ => n
def lo : Con → Int | mk _ _ l _ _ _ _ => l
def hi : Con → Int | mk _ _ _ h _ _ _ => h
def ad : Con → Option Addr | mk _ _ _ _ a _ _ => a
def cap : Con → Nat | mk _ _ _ _ _ c _ => c
def parts : Con → List Con | mk _ _ _ _ _ _ p => p
def cells (c : Con) : List Value := [.int .i64 c.kind, str c.name, .int .i64 c.lo, .int .i64 c.hi, .slice c.ad c.parts.length c.cap]
def val (c : Con) : Value := .agg c.cells.toArray
theorem cells_len (c : Con) : c.cells.length = 5 := rfl
def sz : Con → Nat
  | mk _ _ _ _ _ _ ps => 1 + szs ps
where szs : List Con → Nat
  | [] => 0
  | p :: ps => sz p + szs ps
theorem sz_pos (c : Con) : 0 < c.sz := by cases c; simp [sz]; omega
theorem qc_ {p : Con} : ∀ {ps : List Con}, p ∈ ps → p.sz ≤ sz.szs ps
  | q :: ps, h => by
    rcases List.mem_cons.1 h with rfl | h
    · simp [sz.szs]
    · have := qc_ h; simp [sz.szs]; omega
theorem sz_part {c p : Con} (h : p ∈ c.parts) : p.sz < c.sz := by
  cases c with
  | mk k n l hi a cp ps => have := qc_ (ps := ps) h; simp only [sz]; omega
def mem : Con → Vw → Prop
  | mk _ _ _ _ a _ ps, v => ca_ v a (ps.flatMap cells) ∧ mems ps v
where mems : List Con → Vw → Prop
  | [], _ => True
  | p :: ps, v => mem p v ∧ mems ps v
theorem mQ_ {v : Vw} : ∀ {ps : List Con}, mem.mems ps v ↔ ∀ p ∈ ps, p.mem v
  | [] => by simp [mem.mems]
  | p :: ps => by simp [mem.mems, mQ_ (ps := ps)]
theorem mem_iff (c : Con) (v : Vw) : c.mem v ↔ ca_ v c.ad (c.parts.flatMap cells) ∧ ∀ p ∈ c.parts, p.mem v := by
  cases c with
  | mk k n l hi a cp ps => simp only [mem, mQ_, ad, parts]
theorem mR_ : ∀ (n : Nat) (c : Con), c.sz ≤ n → ∀ v v', v.le v' → c.mem v → c.mem v'
  | 0, c, h => by have := c.sz_pos; omega
  | n + 1, c, h => fun v v' hl hm => by
    rw [mem_iff] at hm ⊢
    exact ⟨(aS_ c.ad (c.parts.flatMap cells)).mono v v' hl hm.1, fun p hp => mR_ n p (by have := sz_part hp; omega) v v' hl (hm.2 p hp)⟩
def memF (c : Con) : Fct := ⟨c.mem, mR_ c.sz c (Nat.le_refl _)⟩
def ok : Con → Prop
  | mk k n l h _ c ps => -9223372036854775808 ≤ k ∧ k ≤ 9223372036854775807 ∧ n.length ≤ 140737488351232 ∧ -9223372036854775808 ≤ l ∧ l ≤ 9223372036854775807 ∧ -9223372036854775808 ≤ h ∧ h ≤ 9223372036854775807 ∧ ps.length ≤ c ∧ c ≤ 2199023255488 ∧ oks ps
where oks : List Con → Prop
  | [] => True
  | p :: ps => ok p ∧ oks ps
theorem oks_iff : ∀ {ps : List Con}, ok.oks ps ↔ ∀ p ∈ ps, p.ok
  | [] => by simp [ok.oks]
  | p :: ps => by simp [ok.oks, oks_iff (ps := ps)]
theorem ok_part {c p : Con} (h : c.ok) (hp : p ∈ c.parts) : p.ok := by
  cases c with
  | mk k n l hi a cp ps => exact oks_iff.1 h.2.2.2.2.2.2.2.2.2 p hp
theorem ok_name {c : Con} (h : c.ok) : c.name.length ≤ 140737488351232 := by cases c; exact h.2.2.1
theorem ok_len {c : Con} (h : c.ok) : c.parts.length ≤ c.cap ∧ c.cap ≤ 2199023255488 := by cases c; exact ⟨h.2.2.2.2.2.2.2.1, h.2.2.2.2.2.2.2.2.1⟩
theorem part_cells {c p : Con} {i : Nat} (hp : c.parts[i]? = some p) : ∀ j y, p.cells[j]? = some y → (c.parts.flatMap cells)[i * 5 + j]? = some y := by
  intro j y hj
  have hlt : j < 5 := by
    have := (List.getElem?_eq_some_iff.1 hj).1
    rwa [cells_len] at this
  rw [iB_ cells 5 cells_len c.parts i j p hp hlt]
  exact hj
theorem row_addr {v : Vw} {c p : Con} {i : Nat} (h : c.mem v) (hp : c.parts[i]? = some p) : ∃ b off, c.ad = some ⟨b, off, none⟩ := by
  have := ((mem_iff c v).1 h).1
  refine this.addr fun e => ?_
  have hc := part_cells hp 0 _ (List.getElem?_eq_getElem (by rw [cells_len]; omega))
  rw [e] at hc
  simp at hc
theorem mem_part {v : Vw} {c p : Con} (h : c.mem v) (hp : p ∈ c.parts) : p.mem v := ((mem_iff c v).1 h).2 p hp
def fits : Con → Nat → Nat → Bool × Nat
  | mk _ _ _ _ _ _ ps, d, n => if 8 < d || 64 < n + 1 then (false, n + 1) else fitss ps (d + 1) (n + 1)
where fitss : List Con → Nat → Nat → Bool × Nat
  | [], _, n => (true, n)
  | p :: ps, d, n => match fits p d n with
    | (true, m) => fitss ps d m
    | (false, m) => (false, m)
theorem fits_eq (c : Con) (d n : Nat) : c.fits d n = if 8 < d || 64 < n + 1 then (false, n + 1) else fits.fitss c.parts (d + 1) (n + 1) := by cases c; rfl
end Con
end Go.Vs
namespace Go.Sx
section
variable {P : Program} {N : Nat} {v0 : Vw} {H0 : Hp} {R : Exit → Act → World → Prop} {K : List Kt} {fr : Fr} {H : Hp} {Γ : List Fct}
variable {ops : Array Oper} {l : List Oper} {d : Nat} {ty : TypeId} {ps : String} {af : Array Edge}
open Go Go.Vs
theorem mV_ (c : List Value) : lr_ c 0 c.length = some c := by
  have key : ∀ (n off : Nat) (c : List Value), off + n = c.length → lr_ c off n = some (c.drop off) := by
    intro n
    induction n with
    | zero => intro off c h; simp only [lr_]; rw [List.drop_of_length_le (by omega)]
    | succ n ih =>
      intro off c h
      have hlt : off < c.length := by omega
      simp only [lr_, lg_eq, List.getElem?_eq_getElem hlt, ih (off + 1) c (by omega)]
      rw [List.drop_eq_getElem_cons hlt]
  have := key c.length 0 c (by omega)
  simpa using this
theorem dc_ {t : TypeId} {x : Operand} {b : Nat} (i : Nat) {T : TypeId} {fz : Nat × Nat} {c : Con} (ha : ∀ w, (isAgg t).run P w = .ok true w) (hs : ∀ w, (sizeOf t).run P w = .ok 5 w)
    (hx : Fr.ev fr x = some (.pointer (some ⟨b, 0, none⟩))) (hi : H[i]? = some (b, .cells c.cells.toArray T fz)) : Yld P N fr H Γ (.load t x) ty c.val :=
  L_ i ha hs hx hi (by have := mV_ c.cells; rw [c.cells_len] at this; exact this)
theorem lL_ (c : Con) : c.cells.all Value.oneCell' = true := rfl
theorem eE_ {t : TypeId} {x y : Operand} {b : Nat} (i : Nat) {cur : Array Value} {T : TypeId} {c : Con} (hs : ∀ w, (sizeOf t).run P w = .ok 5 w)
    (hx : Fr.ev fr x = some (.pointer (some ⟨b, 0, none⟩))) (hy : Fr.ev fr y = some c.val) (hi : H[i]? = some (b, .cells cur T (0, 0))) (hn : cur.size = 5)
    (hk : Ops P R N v0 H0 ops l K fr (H.set i (b, .cells c.cells.toArray T (0, 0))) Γ) :
    Ops P R N v0 H0 ops (⟨none, .store t x y, ty, ps, af, none⟩ :: l) K fr H Γ := by
  refine Z_ i hs hx hy hi (by simp [Con.val, Value.cells, c.cells_len]) (by simp [hn]) (lL_ c) ?_
  have e : (cur.toList.take 0 ++ c.val.cells.toList ++ cur.toList.drop (0 + 5)).toArray = c.cells.toArray := by
    have h5 : cur.toList.length = 5 := by simp [hn]
    simp [Con.val, Value.cells, List.drop_of_length_le (show cur.toList.length ≤ 5 by omega)]
  rw [e]
  exact hk
end
end Go.Sx
namespace Go.Vs.Con
theorem gr_ : ∀ (xs ys : List Con) (d n m : Nat), fits.fitss xs d n = (true, m) → fits.fitss (xs ++ ys) d n = fits.fitss ys d m
  | [], ys, d, n, m, h => by simp only [fits.fitss, Prod.mk.injEq] at h; obtain ⟨_, rfl⟩ := h; rfl
  | x :: xs, ys, d, n, m, h => by
    simp only [fits.fitss, List.cons_append] at h ⊢
    split at h
    · rename_i q hq; exact gr_ xs ys d q m h
    · cases h
theorem lD_ : ∀ (k : Nat) (c : Con), c.sz ≤ k → ∀ d n, (c.fits d n).1 = true → (c.fits d n).2 ≤ 64
  | 0, c, h => by have := c.sz_pos; omega
  | k + 1, c, h => fun d n ht => by
    rw [fits_eq] at ht ⊢
    split at ht
    · cases ht
    · rename_i hc
      rw [if_neg hc]
      simp only [Bool.or_eq_true, decide_eq_true_eq, not_or, Nat.not_lt] at hc
      have key : ∀ (ps : List Con), (∀ p ∈ ps, p.sz ≤ k) → ∀ n, n ≤ 64 → (fits.fitss ps (d + 1) n).1 = true → (fits.fitss ps (d + 1) n).2 ≤ 64 := by
        intro ps
        induction ps with
        | nil => intro _ n hn _; simpa [fits.fitss] using hn
        | cons p ps ih =>
          intro hp n hn ht
          simp only [fits.fitss] at ht ⊢
          split at ht
          · rename_i m hm
            have := lD_ k p (hp p (by simp)) (d + 1) n (by rw [hm])
            rw [hm] at this
            exact ih (fun q hq => hp q (by simp [hq])) m this ht
          · cases ht
      exact key c.parts (fun p hp => by have := sz_part hp; omega) (n + 1) (by omega) ht
theorem take_snoc {ps : List Con} {p : Con} {i : Nat} (hp : ps[i]? = some p) : ps.take (i + 1) = ps.take i ++ [p] := by rw [List.take_add_one, hp]; rfl
theorem fitss_step {ps : List Con} {p : Con} {i d n m : Nat} (hp : ps[i]? = some p) (h : fits.fitss (ps.take i) d n = (true, m)) (hf : (p.fits d m).1 = true) :
    fits.fitss (ps.take (i + 1)) d n = (true, (p.fits d m).2) ∧ (p.fits d m).2 ≤ 64 := by
  refine ⟨?_, lD_ _ p (Nat.le_refl _) d m hf⟩
  rw [take_snoc hp, gr_ _ _ _ _ _ h]
  simp only [fits.fitss]
  rcases hq : p.fits d m with ⟨b, q⟩
  rw [hq] at hf
  simp only at hf
  subst hf
  rfl
theorem fits_no {k lo hi : Int} {nm : Str} {ad : Option Addr} {cap : Nat} {ps : List Con} {p : Con} {i d n m : Nat} (hc : ¬ (8 < d ∨ 64 < n + 1)) (hp : ps[i]? = some p) (h : fits.fitss (ps.take i) (d + 1) (n + 1) = (true, m)) (hf : (p.fits (d + 1) m).1 = false) :
    (mk k nm lo hi ad cap ps).fits d n = (false, (p.fits (d + 1) m).2) := by
  rw [fits_eq, if_neg (by simpa using hc)]
  have e : ps = ps.take i ++ p :: ps.drop (i + 1) := by
    have hi := (List.getElem?_eq_some_iff.1 hp).1
    rw [List.getElem?_eq_getElem hi] at hp
    simp only [Option.some.injEq] at hp
    subst hp
    rw [List.getElem_cons_drop hi, List.take_append_drop]
  show fits.fitss ps (d + 1) (n + 1) = _
  rw [e, gr_ _ _ _ _ _ h]
  simp only [fits.fitss]
  rcases hq : p.fits (d + 1) m with ⟨b, q⟩
  rw [hq] at hf
  simp only at hf
  subst hf
  rfl
theorem fits_yes {k lo hx : Int} {nm : Str} {ad : Option Addr} {cap : Nat} {ps : List Con} {i d n m : Nat} (hc : ¬ (8 < d ∨ 64 < n + 1)) (hi : ps.length ≤ i) (h : fits.fitss (ps.take i) (d + 1) (n + 1) = (true, m)) :
    (mk k nm lo hx ad cap ps).fits d n = (true, m) := by
  rw [fits_eq, if_neg (by simpa using hc)]
  rw [List.take_of_length_le hi] at h
  exact h
end Go.Vs.Con
namespace Go.Vs
open Go Go.Sx
def el_ : List (Int × Int × Int × Bool) := [(0, 0, 0, false), (0, 0, 0, false), (0, 0, 0, false), (1, 0, 0, false), (2, 0, 0, false), (0, 2, 8, false), (1, 1, 1, false), (1, 0, 0, true)]
def oB_ (x : Int × Int × Int × Bool) : List Value := [.int .i64 x.1, .int .i64 x.2.1, .int .i64 x.2.2.1, .bool x.2.2.2]
theorem iu_ (x : Int × Int × Int × Bool) : (oB_ x).length = 4 := rfl
def nd (k : Int) : Int × Int × Int × Bool := (el_[k.toNat]?).getD (0, 0, 0, false)
namespace Con
def fieldErr (c : Con) : Int :=
  if c.kind < 1 ∨ 7 < c.kind then 21
  else if (c.parts.length : Int) < (nd c.kind).2.1 ∨ (nd c.kind).2.2.1 < (c.parts.length : Int) ∨ ((nd c.kind).1 = 0 ∧ c.name ≠ []) then 21
  else if (nd c.kind).2.2.2 = true ∧ (c.lo < -1099511627776 ∨ c.hi < c.lo ∨ 1099511627776 < c.hi) then 21
  else if (nd c.kind).2.2.2 = false ∧ (c.lo ≠ 0 ∨ c.hi ≠ 0) then 21
  else if (nd c.kind).1 = 0 ∨ bL_ c.name = true ∨ ((nd c.kind).1 = 2 ∧ cU_ c.name = true) then 0
  else 20
def firstErr : Con → Int
  | c@(mk _ _ _ _ _ _ ps) => if c.fieldErr = 0 then firstErrs ps else c.fieldErr
where firstErrs : List Con → Int
  | [] => 0
  | p :: ps => if firstErr p = 0 then firstErrs ps else firstErr p
theorem iM_ (c : Con) : c.firstErr = if c.fieldErr = 0 then firstErr.firstErrs c.parts else c.fieldErr := by cases c; simp only [firstErr, parts]
def check (c : Con) : Int := if (c.fits 0 0).1 then c.firstErr else 21
end Con
end Go.Vs
namespace Go.Sx
open Go Go.Vs
section
variable {P : Program} {N : Nat} {v0 : Vw} {H0 : Hp} {R : Exit → Act → World → Prop} {K : List Kt} {fr : Fr} {H : Hp} {Γ : List Fct}
theorem ret0 {fn : Func} {ι : Type} {F : Hp} {ret : ι → Value} {H' : ι → Hp} {Γ' : ι → List Fct} (hr : fn.results = #[]) (x : ι) (hx : .tuple #[] = ret x) (hH : H.Perm (H' x ++ F))
    (hΓ : ∀ v, v.sat H → aI_ Γ v → aI_ (Γ' x) v) : Ok N v0 H0 (bodyPost P fn (iZ_ v0 H0 ret H' Γ') .ret) fr H Γ :=
  ew_ hH hΓ fun a v h1 h2 h3 h4 => ⟨h1.defers, ret x, by rw [results_none hr, hx], x, v, rfl, rfl, h2, h4, h3⟩
theorem cn_ {fn : Func} {ι : Type} {F : Hp} {ret : ι → Value} {H' : ι → Hp} {Γ' : ι → List Fct} (hr : fn.results = #[]) (x : ι) (hx : .tuple #[] = ret x) (hH : H.Perm (H' x ++ F))
    (hΓ : ∀ v, v.sat H → aI_ Γ v → aI_ (Γ' x) v) : Ok N v0 H0 (bodyPost P fn (iZ_ v0 H0 ret H' Γ') .normal) fr H Γ :=
  ret0 hr x hx hH hΓ
theorem jw_ {fn : Func} {t b : Nat} {ty T : TypeId} {u : Value} (i : Nat) (hr : fn.results = #[.cell t ty]) (ha : ∀ w, (isAgg ty).run P w = .ok false w) (hx : Fr.get fr t = some (.pointer (some ⟨b, 0, none⟩))) (hi : H[i]? = some (b, .cells #[u] T (0, 0))) (a : Act) (v : Vw) (h1 : Fr.sat N fr a) (h2 : v.sat H) :
    (results fn a.tmps).run P v.w = .ok u v.w := by
  have e := h1.val t _ hx
  have hc : v.w.cell? ⟨b, 0, none⟩ = some u := by rw [eK_ h2 hi]; rfl
  have hl := dd_ (t := ty) (w := v.w) ha hc
  simp [results, hr, e, asAddr, hl]
variable {F : Fence} {n : Nat} {D : List Deferred} {ops : Array Oper} {l : List Oper} {d : Nat} {ty : TypeId} {ps : String} {af : Array Edge}
theorem mL_ {k : Act → World → Prop} {H' F : Hp} {Γ' : List Fct} (hH : H.Perm (H' ++ F)) (hΓ : ∀ v, v.sat H → aI_ Γ v → aI_ Γ' v) (h : OkD N D v0 H0 k fr H' Γ') : OkD N D v0 H0 k fr H Γ :=
  fun a v h1 h2 h3 h4 => h a v h1 (h2.perm hH).sub (h3.subR fun b hb => by
    have : b ∈ (H' ++ F).map Prod.fst := by rw [List.map_append]; exact List.mem_append_left _ hb
    exact (hH.map Prod.fst).mem_iff.2 this) (hΓ v h2 h4)
theorem mI_ {t : TypeId} {x y : Operand} {b : Nat} (hF : Opn F) (i : Nat) {cur : Array Value} {T : TypeId} {c : Con} (hs : ∀ w, (sizeOf t).run P w = .ok 5 w)
    (hx : Fr.ev fr x = some (.pointer (some ⟨b, 0, none⟩))) (hy : Fr.ev fr y = some c.val) (hi : H[i]? = some (b, .cells cur T (0, 0))) (hn : cur.size = 5)
    (hk : gW_ F n P R N D v0 H0 ops l K fr (H.set i (b, .cells c.cells.toArray T (0, 0))) Γ) :
    gW_ F n P R N D v0 H0 ops (⟨none, .store t x y, ty, ps, af, none⟩ :: l) K fr H Γ := by
  refine hx_ hF i hs hx hy hi (by simp [Con.val, Value.cells, c.cells_len]) (by simp [hn]) (lL_ c) ?_
  have e : (cur.toList.take 0 ++ c.val.cells.toList ++ cur.toList.drop (0 + 5)).toArray = c.cells.toArray := by
    have h5 : cur.toList.length = 5 := by simp [hn]
    simp [Con.val, Value.cells, List.drop_of_length_le (show cur.toList.length ≤ 5 by omega)]
  rw [e]
  exact hk
theorem pc_ {σ τ : Type} {Hj : σ → Hp} {Hx : τ → Hp} {HL G : Hp} {res : σ ⊕ τ} (s' : σ) (hr : res = .inl s') (hH : H.Perm (Hj s' ++ HL ++ G)) : OkD N [] v0 H0 (oj_ v0 H0 Hj Hx HL res .normal) fr H Γ :=
  mL_ (Γ' := []) hH (fun _ _ _ => trivial) fun a v h1 h2 h3 _ => ⟨s', v, hr, rfl, h2, h3⟩
theorem pb_ {σ τ : Type} {Hj : σ → Hp} {Hx : τ → Hp} {HL G : Hp} {res : σ ⊕ τ} (t : τ) (hr : res = .inr t) (hH : H.Perm (Hx t ++ HL ++ G)) : OkD N [] v0 H0 (oj_ v0 H0 Hj Hx HL res .ret) fr H Γ :=
  mL_ (Γ' := []) hH (fun _ _ _ => trivial) fun a v h1 h2 h3 _ => ⟨t, v, hr, rfl, h2, h3⟩
theorem iv_ {ι : Type} {frs : ι → Fr} {Hs : ι → Hp} {Γs : ι → List Fct} (i : ι) {F : Hp} (hfr : Fr.le (frs i) fr) (hH : H.Perm (Hs i ++ F)) (hΓ : ∀ v, v.sat H → aI_ Γ v → aI_ (Γs i) v) :
    OkD N [] v0 H0 (Mid N v0 H0 frs Hs Γs .normal) fr H Γ := ll_.2 (qG_ i hfr hH hΓ)
end
end Go.Sx
namespace Go.Vs.Con
def fold {σ τ : Type} (f : Con → σ → σ ⊕ τ) : Con → σ → σ ⊕ τ
  | c@(mk _ _ _ _ _ _ ps), s => match f c s with | .inl s' => folds f ps s' | .inr t => .inr t
where folds {σ τ : Type} (f : Con → σ → σ ⊕ τ) : List Con → σ → σ ⊕ τ
  | [], s => .inl s
  | p :: ps, s => match fold f p s with | .inl s' => folds f ps s' | .inr t => .inr t
section
variable {σ τ : Type} {f : Con → σ → σ ⊕ τ}
theorem fold_eq (c : Con) (s : σ) : fold f c s = match f c s with | .inl s' => fold.folds f c.parts s' | .inr t => .inr t := by cases c; rw [fold]; rfl
theorem gp_ : ∀ (xs ys : List Con) (s m : σ), fold.folds f xs s = .inl m → fold.folds f (xs ++ ys) s = fold.folds f ys m
  | [], ys, s, m, h => by simp only [fold.folds, Sum.inl.injEq] at h; subst h; rfl
  | x :: xs, ys, s, m, h => by
    simp only [fold.folds, List.cons_append] at h ⊢
    split at h
    · rename_i q hq; exact gp_ xs ys q m h
    · cases h
theorem folds_step {ps : List Con} {p : Con} {i : Nat} {s m m' : σ} (hp : ps[i]? = some p) (h : fold.folds f (ps.take i) s = .inl m) (hf : fold f p m = .inl m') : fold.folds f (ps.take (i + 1)) s = .inl m' := by
  rw [take_snoc hp, gp_ _ _ _ _ h]
  simp only [fold.folds, hf]
theorem folds_no {ps : List Con} {p : Con} {i : Nat} {s m : σ} {t : τ} (hp : ps[i]? = some p) (h : fold.folds f (ps.take i) s = .inl m) (hf : fold f p m = .inr t) : fold.folds f ps s = .inr t := by
  have e : ps = ps.take i ++ p :: ps.drop (i + 1) := by
    have hi := (List.getElem?_eq_some_iff.1 hp).1
    rw [List.getElem?_eq_getElem hi] at hp
    simp only [Option.some.injEq] at hp
    subst hp
    rw [List.getElem_cons_drop hi, List.take_append_drop]
  rw [e, gp_ _ _ _ _ h]
  simp only [fold.folds, hf]
theorem folds_yes {ps : List Con} {i : Nat} {s m : σ} (hi : ps.length ≤ i) (h : fold.folds f (ps.take i) s = .inl m) : fold.folds f ps s = .inl m := by
  rwa [List.take_of_length_le hi] at h
end
def chk (c : Con) (_ : Unit) : Unit ⊕ Int := if c.fieldErr = 0 then .inl () else .inr c.fieldErr
theorem fold_chk : ∀ (m : Nat) (c : Con), c.sz ≤ m → fold chk c () = if c.firstErr = 0 then .inl () else .inr c.firstErr
  | 0, c, h => by have := c.sz_pos; omega
  | m + 1, c, h => by
    rw [fold_eq, iM_, chk]
    have key : ∀ (ps : List Con), (∀ p ∈ ps, p.sz ≤ m) → fold.folds chk ps () = if firstErr.firstErrs ps = 0 then .inl () else .inr (firstErr.firstErrs ps) := by
      intro ps
      induction ps with
      | nil => intro _; simp [fold.folds, firstErr.firstErrs]
      | cons p ps ih =>
        intro hp
        simp only [fold.folds, firstErr.firstErrs]
        rw [fold_chk m p (hp p (by simp))]
        by_cases e : p.firstErr = 0
        · simp only [e, if_true]
          exact ih fun q hq => hp q (by simp [hq])
        · simp [e]
    by_cases e : c.fieldErr = 0
    · simp only [e, if_true]
      exact key c.parts fun p hp => by have := sz_part hp; omega
    · simp [e]
def cnt (_ : Con) (n : Nat) : Nat ⊕ Empty := .inl (n + 1)
end Go.Vs.Con
namespace Go.Sx
open Go
theorem jaf {A B : Bool} (h : A = false) : false = (A && B) := by rw [h]; rfl
theorem jat {A B r : Bool} (h : A = true) (hb : B = r) : r = (A && B) := by rw [h, ← hb]; rfl
theorem jot {A B : Bool} (h : A = true) : true = (A || B) := by rw [h]; rfl
theorem jof {A B r : Bool} (h : A = false) (hb : B = r) : r = (A || B) := by rw [h, ← hb]; rfl
theorem jn {A r : Bool} (h : A = r) : (!A) = (!r) := by rw [h]
section
variable {P : Program} {N : Nat} {v0 : Vw} {H0 : Hp} {R : Exit → Act → World → Prop} {K : List Kt} {fr : Fr} {H : Hp} {Γ : List Fct}
variable {ops : Array Oper} {l : List Oper}
theorem kB_ {Q Q' : Exit → Act → World → Prop} {o : Oper} {a : Act} {w : World} {K1 K2 : Act → World → Prop} (h : ∀ a w, K1 a w → K2 a w) (hp : ∀ c a w, Q (.panic c) a w → Q' (.panic c) a w) (ho : ∀ a w, Q .outgrown a w → Q' .outgrown a w)
    (hh : o.wp P a w K1 Q) : o.wp P a w K2 Q' := by
  unfold Oper.wp at *
  generalize (execOp a.eval o).run P w = r at *
  cases r with
  | ok n w' =>
    cases n <;> simp only [Oper.upon] at hh ⊢ <;>
      first
        | exact h _ _ hh
        | exact Calls.mono hh (fun e w'' he => by
            cases e with
            | returned v => exact h _ _ he
            | panicked c => exact hp _ _ _ he
            | outgrown => obtain ⟨a, w, q⟩ := he; exact ⟨a, w, ho _ _ q⟩)
        | exact Rows.mono hh (fun _ _ he => h _ _ he)
  | halt x w' => cases x <;> simp only [Oper.upon] at hh ⊢ <;> first | exact hp _ _ _ hh | exact hh
theorem ht_ {l2 : List Oper} : ∀ (l1 : List Oper) (a : Act) (w : World), wpList P ops (post P R (.inv (wpList P ops (post P R K) l2) :: K)) l1 a w → wpList P ops (post P R K) (l1 ++ l2) a w
  | [], a, w, h => h
  | o :: l1, a, w, h => by
    simp only [wpList, List.cons_append] at h ⊢
    split
    · rename_i hw
      rw [if_pos hw] at h
      rcases h with h | ⟨h, a', w', q⟩
      · exact .inl (kB_ (fun a w q => ht_ l1 a w q) (fun c a w q => q) (fun a w q => q) h)
      · exact .inr ⟨h, a', w', q⟩
    · rename_i hw
      rw [if_neg hw] at h
      exact ht_ l1 _ _ h
def oC_ : Nat → List Oper → List Oper
  | 0, _ => []
  | _, [] => []
  | n + 1, o :: l => o :: oC_ n l
def oE_ : Nat → List Oper → List Oper
  | 0, l => l
  | _, [] => []
  | n + 1, _ :: l => oE_ n l
theorem jQ_ : ∀ (n : Nat) (l : List Oper), oC_ n l ++ oE_ n l = l
  | 0, _ => rfl
  | n + 1, [] => rfl
  | n + 1, o :: l => by show o :: (oC_ n l ++ oE_ n l) = o :: l; rw [jQ_ n l]
def MetJ (N : Nat) (v0 : Vw) (H0 : Hp) (fr : Fr) (H : Hp) (Γ : List Fct) (a : Act) (w : World) : Prop := ∃ v, v.w = w ∧ Fr.sat N fr a ∧ v.sat H ∧ v0.to H0 v H ∧ aI_ Γ v
theorem aT_ (n : Nat) (X : Bool) (fr' : Bool → Fr) (h1 : Ops P R N v0 H0 ops (oC_ n l) (.inv (MetJ N v0 H0 (fr' X) H Γ) :: K) fr H Γ)
    (h2 : ∀ r, X = r → Ops P R N v0 H0 ops (oE_ n l) K (fr' r) H Γ) : Ops P R N v0 H0 ops l K fr H Γ := by
  intro a v g1 g2 g3 g4
  rw [← jQ_ n l]
  refine ht_ _ _ _ ?_
  have h3 := h1 a v g1 g2 g3 g4
  refine wpL_mono ?_ _ _ _ h3
  rintro a' w' ⟨v', rfl, k1, k2, k3, k4⟩
  exact h2 X rfl a' v' k1 k2 k3 k4
where wpL_mono {J J' : Act → World → Prop} (hJ : ∀ a w, J a w → J' a w) : ∀ (l1 : List Oper) (a : Act) (w : World), wpList P ops (post P R (.inv J :: K)) l1 a w → wpList P ops (post P R (.inv J' :: K)) l1 a w
  | [], a, w, h => hJ _ _ h
  | o :: l1, a, w, h => by
    simp only [wpList] at h ⊢
    split
    · rename_i hw
      rw [if_pos hw] at h
      rcases h with h | ⟨h, a', w', q⟩
      · exact .inl (kB_ (fun a w q => wpL_mono hJ l1 a w q) (fun c a w q => q) (fun a w q => q) h)
      · exact .inr ⟨h, a', w', q⟩
    · rename_i hw
      rw [if_neg hw] at h
      exact wpL_mono hJ l1 _ _ h
theorem met {fr' : Fr} (hfr : Fr.le fr' fr) : Ok N v0 H0 (MetJ N v0 H0 fr' H Γ) fr H Γ :=
  bS_ fr' hfr fun _ v h1 h2 h3 h4 => ⟨v, rfl, h1, h2, h3, h4⟩
end
end Go.Sx
namespace Go.Sx
open Go
theorem an_ {α : Type} {f : α → List Value} {n : Nat} (hf : ∀ x, (f x).length = n) {l : List α} {i : Nat} {x : α} (hx : l[i]? = some x) : ∀ j y, (f x)[j]? = some y → (l.flatMap f)[i * n + j]? = some y := by
  intro j y hj
  have hlt : j < n := by
    have := (List.getElem?_eq_some_iff.1 hj).1
    rwa [hf] at this
  rw [iB_ f n hf l i j x hx hlt]
  exact hj
theorem aL_ {α : Type} {f : α → List Value} {n : Nat} (hf : ∀ x, (f x).length = n) (h0 : 0 < n) {v : Vw} {ad : Option Addr} {l : List α} {i : Nat} {x : α} (h : ca_ v ad (l.flatMap f)) (hx : l[i]? = some x) : ∃ b off, ad = some ⟨b, off, none⟩ := by
  refine h.addr fun e => ?_
  have hc := an_ hf hx 0 _ (List.getElem?_eq_getElem (by rw [hf]; exact h0))
  rw [e] at hc
  simp at hc
def bg_ (s : List UInt8) : List Value := [str s]
theorem aX_ (s : List UInt8) : (bg_ s).length = 1 := rfl
end Go.Sx
namespace Go.Vs
open Go Go.Sx
structure Ax where
  kind : Int
  opn : Bool
  left : Con
  right : Con
  ad : Option Addr
  cap : Nat
  roles : List Str
  role : Str
  a : Str
  b : Str
namespace Ax
def cells (x : Ax) : List Value := .int .i64 x.kind :: .bool x.opn :: (x.left.cells ++ (x.right.cells ++ [.slice x.ad x.roles.length x.cap, str x.role, str x.a, str x.b]))
def val (x : Ax) : Value := .agg x.cells.toArray
theorem cells_len (x : Ax) : x.cells.length = 16 := by simp [cells, Con.cells_len]
def mem (x : Ax) (v : Vw) : Prop := x.left.mem v ∧ x.right.mem v ∧ ca_ v x.ad (x.roles.flatMap bg_)
def memF (x : Ax) : Fct := ⟨x.mem, fun v v' h hp => ⟨x.left.memF.mono v v' h hp.1, x.right.memF.mono v v' h hp.2.1, (aS_ x.ad (x.roles.flatMap bg_)).mono v v' h hp.2.2⟩⟩
structure ok (x : Ax) : Prop where
  lo : -9223372036854775808 ≤ x.kind
  hi : x.kind ≤ 9223372036854775807
  left : x.left.ok
  right : x.right.ok
  len : x.roles.length ≤ x.cap
  cap : x.cap ≤ 8796093021952
  roles : ∀ r ∈ x.roles, r.length ≤ 140737488351232
  role : x.role.length ≤ 140737488351232
  a : x.a.length ≤ 140737488351232
  b : x.b.length ≤ 140737488351232
end Ax
def Con.empty (c : Con) : Bool := ((((c.kind == 0) && (c.name == [])) && (c.lo == 0)) && (c.hi == 0)) && ((c.parts.length : Int) == 0)
def Con.bare : Con → Bool
  | mk k _ _ _ _ _ ps => (k == 4) || ((k == 5) && bares ps)
where bares : List Con → Bool
  | [] => false
  | p :: ps => bare p || bares ps
theorem Con.bares_any : ∀ (ps : List Con), Con.bare.bares ps = ps.any Con.bare
  | [] => rfl
  | p :: ps => by simp [Con.bare.bares, Con.bares_any ps]
theorem Con.bare_eq (c : Con) : c.bare = ((c.kind == 4) || ((c.kind == 5) && c.parts.any Con.bare)) := by cases c; simp only [Con.bare, Con.bares_any, kind, parts]
structure Use where
  left : Bool
  right : Bool
  role : Bool
  a : Bool
  b : Bool
  least : Int
  most : Int
def Use.cells (u : Use) : List Value := [.bool u.left, .bool u.right, .bool u.role, .bool u.a, .bool u.b, .int .i64 u.least, .int .i64 u.most]
theorem Use.cells_len (u : Use) : u.cells.length = 7 := rfl
def pZ_ : List Use := [⟨false, false, false, false, false, 0, 0⟩, ⟨true, true, false, false, false, 0, 0⟩, ⟨true, true, false, false, false, 0, 0⟩, ⟨true, true, false, false, false, 0, 0⟩, ⟨false, true, true, false, false, 0, 0⟩,
  ⟨false, false, true, false, false, 1, 1⟩, ⟨false, false, true, false, false, 2, 4⟩, ⟨false, false, true, false, false, 0, 0⟩, ⟨false, true, false, true, false, 0, 0⟩, ⟨false, false, true, true, true, 0, 0⟩]
def us (k : Int) : Use := (pZ_[k.toNat]?).getD ⟨false, false, false, false, false, 0, 0⟩
namespace Ax
def shaped (x : Ax) : Bool :=
  if x.kind < 1 ∨ 9 < x.kind then false else
    let u := us x.kind
    (((((((u.left || x.left.empty) && (u.right || x.right.empty)) && (u.role || (x.role == []))) && (u.a || (x.a == []))) && (u.b || (x.b == []))) && decide (u.least ≤ (x.roles.length : Int))) && decide ((x.roles.length : Int) ≤ u.most))
def namedU (x : Ax) (u : Use) : Bool := !(u.role && !bL_ x.role || u.a && !bi_ x.a || u.b && !bi_ x.b) && x.roles.all bL_
def check (x : Ax) : Int :=
  if x.shaped = false then 22
  else if x.namedU (us x.kind) = false then 20
  else if (us x.kind).left = true ∧ x.left.check ≠ 0 then x.left.check
  else if (us x.kind).right = true ∧ x.right.check ≠ 0 then x.right.check
  else if x.kind = 2 ∧ (x.left.bare = true ∨ x.right.bare = true) then 22
  else if (x.kind = 1 ∨ x.kind = 4 ∨ x.kind = 8) ∧ x.right.bare = true then 22
  else 0
end Ax
end Go.Vs
namespace Go.Vs
open Go Go.Sx
structure NUse where
  a : Bool
  b : Bool
  c : Bool
  r : Bool
  s : Bool
  t : Bool
  numbers : Bool
def NUse.cells (u : NUse) : List Value := [.bool u.a, .bool u.b, .bool u.c, .bool u.r, .bool u.s, .bool u.t, .bool u.numbers]
theorem NUse.cells_len (u : NUse) : u.cells.length = 7 := rfl
def fq_ : List NUse := [⟨false, false, false, false, false, false, false⟩, ⟨true, false, true, false, false, false, false⟩, ⟨true, true, true, false, false, false, false⟩, ⟨true, false, true, true, false, false, false⟩, ⟨true, false, true, true, false, false, false⟩,
  ⟨false, false, false, true, false, true, false⟩, ⟨false, false, false, true, true, true, false⟩, ⟨false, false, false, true, false, false, false⟩, ⟨true, false, false, true, false, false, true⟩, ⟨false, false, true, true, false, false, true⟩]
def nus (k : Int) : NUse := (fq_[k.toNat]?).getD ⟨false, false, false, false, false, false, false⟩
end Go.Vs
namespace Go.Sx
open Go
def dZ_ (b : Nat) (o : Obj) : Fct where
  p := fun v => v.im b ∧ v.w.heap[b]? = some o
  mono := fun v v' h hp => ⟨h.imUp b hp.1, by rw [h.block b hp.1]; exact hp.2⟩
section
variable {P : Program} {N : Nat} {v0 : Vw} {H0 : Hp} {R : Exit → Act → World → Prop} {K : List Kt} {fr : Fr} {H : Hp} {Γ : List Fct}
variable {ops : Array Oper} {l : List Oper} {d : Nat} {ty : TypeId} {ps : String} {af : Array Edge}
theorem hV_ {k : Act → World → Prop} {b : Nat} {o : Obj} (i : Nat) (hi : H[i]? = some (b, o)) (h : Ok N v0 H0 k fr (H.eraseIdx i) (dZ_ b o :: Γ)) : Ok N v0 H0 k fr H Γ :=
  gl_ (dZ_ b o) (eV_ hi) (fun _ h1 h2 _ => ⟨h1, h2⟩) h
theorem cL_ {t : TypeId} (hN : Nat.blt d N = true) (hk : ∀ b, Ops P R N v0 H0 ops l K ((d, .map (some b)) :: fr) ((b, .map #[] 0) :: H) Γ) :
    Ops P R N v0 H0 ops (⟨some d, .makeMap t none, ty, ps, af, none⟩ :: l) K fr H Γ :=
  gi_ (x := fun b => .map (some b)) hN (fun a v h1 _ _ => by simp [execOp, Instr.makeMap, newObj]; rfl) hk
def hs_ (P : Program) (k : TypeId) (key : Value) : Prop := ∀ e w, (Instr.checkKey e 10000 k key).run P w = .ok () w
def dX_ (P : Program) (k : TypeId) (key : Value) (es : List MapEntry) (r : Option (Nat × Value)) : Prop := ∀ w, (Instr.findKey k key es).run P w = .ok r w
theorem cf_ {k : TypeId} {i : IntKind} {n : Int} (hd : P.underlying k = some (.int i)) : hs_ P k (.int i n) := fun e w => by
  exact key (9999) e w
where key (m : Nat) (e : Bool) (w : World) : (Instr.checkKey e (m + 1) k (.int i n)).run P w = .ok () w := by simp [Instr.checkKey, run_underlying hd]
theorem bu_ {k : TypeId} {dd : TypeDesc} {key : Value} {es : List MapEntry} {r : Option (Nat × Value)} (hd : P.underlying k = some dd) (h : Instr.findNow dd key es 0 = some r) : dX_ P k key es r := fun w => by
  simp [Instr.findKey, run_underlying hd, h]
theorem gb_ {t kt et : TypeId} {x y : Operand} {b c i : Nat} {es : Array MapEntry} {key u : Value} (hu : ∀ w, (underlying t).run P w = .ok (.map kt et) w) (hx : Fr.ev fr x = some (.map (some b))) (hy : Fr.ev fr y = some key)
    (hm : ∀ v, v.sat H → aI_ Γ v → v.w.heap[b]? = some (.map es c)) (hk : hs_ P kt key) (hf : dX_ P kt key es.toList (some (i, u))) : Yld P N fr H Γ (.lookup t x y false) ty u :=
  fun a v h1 h2 h4 _ _ _ => by
    have hb := MapKept.run_getObj_map (P := P) (hm v h2 h4)
    simp [execOp, h1.ev hx, h1.ev hy, Instr.lookup, hu, hb, hk _ _, hf _]
theorem ga_ {t kt et : TypeId} {x y : Operand} {b c : Nat} {es : Array MapEntry} {key z : Value} (hu : ∀ w, (underlying t).run P w = .ok (.map kt et) w) (hz : ∀ w, (zeroValue et).run P w = .ok z w) (hx : Fr.ev fr x = some (.map (some b))) (hy : Fr.ev fr y = some key)
    (hm : ∀ v, v.sat H → aI_ Γ v → v.w.heap[b]? = some (.map es c)) (hk : hs_ P kt key) (hf : dX_ P kt key es.toList none) : Yld P N fr H Γ (.lookup t x y false) ty z :=
  fun a v h1 h2 h4 _ _ _ => by
    have hb := MapKept.run_getObj_map (P := P) (hm v h2 h4)
    simp [execOp, h1.ev hx, h1.ev hy, Instr.lookup, hu, hb, hk _ _, hf _, hz]
theorem bO_ {o : Op} {t kt et : TypeId} {x y z : Operand} {b c : Nat} (i : Nat) {es : Array MapEntry} {key u : Value} (ho : o = .insert t x y z ∨ o = .mapUpdate t x y z) (hu : ∀ w, (underlying t).run P w = .ok (.map kt et) w)
    (hx : Fr.ev fr x = some (.map (some b))) (hy : Fr.ev fr y = some key) (hz : Fr.ev fr z = some u) (hi : H[i]? = some (b, .map es c)) (hk : hs_ P kt key) (hf : dX_ P kt key es.toList none)
    (hkk : Ops P R N v0 H0 ops l K fr (H.set i (b, .map (es.push ⟨key, u, c⟩) (c + 1))) Γ) : Ops P R N v0 H0 ops (⟨none, o, ty, ps, af, none⟩ :: l) K fr H Γ :=
  dF_ rfl fun a v h1 h2 h3 h4 => by
    have hb := (h2.own _ (List.mem_of_getElem? hi)).1
    have hg := MapKept.run_getObj_map (P := P) hb
    have hs := MapKept.run_setObj_map (P := P) (.map (es.push ⟨key, u, c⟩) (c + 1)) hb
    have he : (execOp a.eval ⟨none, o, ty, ps, af, none⟩).run P v.w = .ok .skip { v.w with heap := v.w.heap.setIfInBounds b (.map (es.push ⟨key, u, c⟩) (c + 1)) } := by
      rcases ho with rfl | rfl <;> simp [execOp, h1.ev hx, h1.ev hy, h1.ev hz, Instr.mapUpdate, hu, hg, hk _ _, hf _, hs]
    unfold Oper.wp
    rw [he]
    have hh := MapKept.heap_set (o' := .map (es.push ⟨key, u, c⟩) (c + 1)) hb
    obtain ⟨g1, g2⟩ := gf_ (w' := { v.w with heap := v.w.heap.setIfInBounds b (.map (es.push ⟨key, u, c⟩) (c + 1)) }) h2 hi rfl rfl rfl (Nat.le_refl _) (by simp) hh.1 (fun k hk => hh.2 k hk)
    exact hkk a _ h1 g1 (h3.trans g2) (bC_ (g2.le h2) h4)
theorem dA_ {f : FuncId} {args : Array Value} {r : Value} (hc : fZ_ P f) (h : ∀ v : Vw, v.sat H → aI_ Γ v → Calls P f args v.w fun e w' => e = .returned r ∧ RowKit.Below v.w.heap.size v.w w' ∧ (v.sl ∨ v.w.drawn ≤ w'.drawn)) : Tri P f args H Γ (fun _ : Unit => r) (fun _ => H) (fun _ => []) :=
  ⟨hc, fun v h1 h2 => (h v h1 h2).mono fun e w' ⟨he, hb, hd⟩ => by
    have hsz : v.w.heap.size ≤ w'.heap.size := hb.size
    have hlt : ∀ p ∈ H, p.1 < v.w.heap.size := fun p hp => (Array.getElem?_eq_some_iff.1 (h1.own p hp).1).1
    refine ⟨(), ⟨v.im, w', v.sl⟩, he, rfl, ⟨fun p hp => ⟨?_, (h1.own p hp).2⟩, h1.nodup, fun b hbb => Nat.lt_of_lt_of_le (h1.lt b hbb) hsz⟩, trivial, ⟨hb.os, hb.tape, hb.output, hsz, fun b hbb _ => hb.block b hbb, fun _ h => h, fun _ h => .inl h, fun _ h => .inl h, rfl, hd⟩⟩
    show w'.heap[p.1]? = _
    rw [hb.block p.1 (hlt p hp)]
    exact (h1.own p hp).1⟩
theorem of_ (w : World) (k : Nat) (os : Array Obj) : RowKit.Below w.heap.size w (Go.Sort.grow (w.drewN k) os) :=
  ⟨rfl, rfl, rfl, by simp [Go.Sort.grow], fun b hb => by simp only [Go.Sort.grow, World.heap_drewN]; rw [Array.getElem?_append_left hb]⟩
theorem ki_ {t e : TypeId} {sz by' : Nat} {z : Value} (hu : P.underlying t = some (.slice e)) (hi : (P.info? e).map (fun i => (i.zero, i.size, i.bytes)) = some (some z, sz, by')) (hz : z.cells.size = sz) (hp : 0 < sz) : Elt P t e sz by' := by
  refine ⟨hu, ?_, hp⟩
  cases h : P.info? e with
  | none => rw [h] at hi; cases hi
  | some i =>
    rw [h] at hi
    simp only [Option.map_some, Option.some.injEq, Prod.mk.injEq] at hi
    exact ⟨i, z, rfl, hi.1, hi.2.1, hi.2.2, hz⟩
theorem cQ_ {b : Nat} {cs : List Value} {T : TypeId} {fz : Nat × Nat} (i : Nat) (hi : H[i]? = some (b, .cells cs.toArray T fz)) : ∀ v : Vw, v.sat H → aI_ Γ v → ∀ j u, cs[j]? = some u → v.w.cell? ((⟨b, 0, none⟩ : Addr).add j) = some u := by
  intro v h1 _ j u hj
  rw [dE_, Nat.zero_add, eK_ h1 hi]
  simpa using hj
theorem dY_ {fn : Func} {ι : Type} {F : Hp} {ret : ι → Value} {H' : ι → Hp} {Γ' : ι → List Fct} (x : ι) (hx : ∀ (a : Act) (v : Vw), Fr.sat N fr a → v.sat H → (results fn a.tmps).run P v.w = .ok (ret x) v.w) (hH : H.Perm (H' x ++ F))
    (hΓ : ∀ v, v.sat H → aI_ Γ v → aI_ (Γ' x) v) : Ok N v0 H0 (bodyPost P fn (iZ_ v0 H0 ret H' Γ') .ret) fr H Γ :=
  fun a v h1 h2 h3 h4 => ⟨h1.defers, ret x, hx a v h1 h2, x, v, rfl, rfl, (h2.perm hH).sub, hΓ v h2 h4, h3.subR fun b hb => by
    have : b ∈ (H' x ++ F).map Prod.fst := by rw [List.map_append]; exact List.mem_append_left _ hb
    exact (hH.map Prod.fst).mem_iff.2 this⟩
theorem fJ_ {fn : Func} {t b n : Nat} {ty T : TypeId} {us : List Value} (i : Nat) (hr : fn.results = #[.cell t ty]) (ha : ∀ w, (isAgg ty).run P w = .ok true w) (hs : ∀ w, (sizeOf ty).run P w = .ok n w) (hn : us.length = n) (hx : Fr.get fr t = some (.pointer (some ⟨b, 0, none⟩)))
    (hi : H[i]? = some (b, .cells us.toArray T (0, 0))) (a : Act) (v : Vw) (h1 : Fr.sat N fr a) (h2 : v.sat H) : (results fn a.tmps).run P v.w = .ok (.agg us.toArray) v.w := by
  have e := h1.val t _ hx
  have hl := de_ (t := ty) (w := v.w) (b := b) (off := 0) ha hs hn (fun j y hj => by rw [Nat.zero_add, eK_ h2 hi]; simpa using hj)
  simp [results, hr, e, asAddr, hl]
theorem rl_ {Hs : Hp} {Γs : List Fct} {fuel : Nat} {listed : Array Bool} (is : List Nat) (hr : Region.ready .any ops listed = is) (hne : is ≠ [])
    (h : ∀ i, i ∈ is → ∃ o, ops[i]? = some o ∧ Ops P R N v0 H0 ops [o] (.inv (Nx P R ops Hs Γs fuel (listed.setIfInBounds i true) K) :: K) fr H Γ) : Any P R N v0 H0 ops Hs Γs (fuel + 1) listed K fr H Γ := by
  intro a v h1 h2 h3 h4
  refine wpAnyH_all hr hne fun j hj => ?_
  obtain ⟨o, hi, h⟩ := h j hj
  have := h a v h1 h2 h3 h4
  unfold wpOp
  simp only [hi]
  unfold wpList at this
  split
  · rename_i hw
    rw [if_pos hw] at this
    rcases this with q | q
    · left
      unfold Oper.wp at q ⊢
      generalize (execOp a.eval o).run P v.w = r at q ⊢
      cases r with
      | ok n w' =>
        cases n <;> simp only [Oper.upon] at q ⊢ <;> exact q
      | halt x w' =>
        cases x <;> simp only [Oper.upon] at q ⊢
        case panic u => exact q
    · exact .inr q
  · rename_i hw
    rw [if_neg hw] at this
    exact this
theorem eZ_ {Hs : Hp} {Γs : List Fct} {fuel : Nat} {listed : Array Bool} (i j : Nat) {o o' : Oper} (hi : ops[i]? = some o) (hj : ops[j]? = some o') (hr : Region.ready .any ops listed = [i, j])
    (h : Ops P R N v0 H0 ops [o] (.inv (Nx P R ops Hs Γs fuel (listed.setIfInBounds i true) K) :: K) fr H Γ) (h' : Ops P R N v0 H0 ops [o'] (.inv (Nx P R ops Hs Γs fuel (listed.setIfInBounds j true) K) :: K) fr H Γ) : Any P R N v0 H0 ops Hs Γs (fuel + 1) listed K fr H Γ :=
  rl_ [i, j] hr (by simp) fun k hk => by
    simp only [List.mem_cons, List.not_mem_nil, or_false] at hk
    rcases hk with rfl | rfl
    · exact ⟨o, hi, h⟩
    · exact ⟨o', hj, h'⟩
theorem bk_.some {e : TypeId} {sz n : Nat} {sv : Value} {xs : List Value} {Hr : Hp} (h : bk_ e sz sv n xs Hr) (hn : n ≠ 0) :
    ∃ g cap cur, sv = .slice (some ⟨g, 0, none⟩) n cap ∧ Hr = [(g, .cells cur e (0, 0))] ∧ n ≤ cap ∧ cap ≤ maxLen ∧ cur.size = cap * sz ∧ cur.toList.take (n * sz) = xs := by
  rcases h.2 with ⟨_, h2, _⟩ | h2
  · exact absurd h2 hn
  · exact h2
theorem hf_ {us : List Value} (h : us.all Value.oneCell' = true) : ∀ u ∈ us, u.oneCell' = true := fun u hu => List.all_eq_true.1 h u hu
theorem aC_ {id : Nat} (Hs : Hp) (hm : P.follows .mixedOrders = true) (h : Any P R N v0 H0 ops Hs Γ ops.size (Array.replicate ops.size false) K fr H Γ) : Run P R N v0 H0 (.region id ops true) K fr H Γ := mo_ Hs Γ hm h
theorem retG {fn : Func} {ι : Type} {F : Hp} {ret : ι → Value} {H' : ι → Hp} {Γ' : ι → List Fct} (x : ι) (hx : ∀ (a : Act) (v : Vw), Fr.sat N fr a → v.sat H → aI_ Γ v → (results fn a.tmps).run P v.w = .ok (ret x) v.w) (hH : H.Perm (H' x ++ F))
    (hΓ : ∀ v, v.sat H → aI_ Γ v → aI_ (Γ' x) v) : Ok N v0 H0 (bodyPost P fn (iZ_ v0 H0 ret H' Γ') .ret) fr H Γ :=
  fun a v h1 h2 h3 h4 => ⟨h1.defers, ret x, hx a v h1 h2 h4, x, v, rfl, rfl, (h2.perm hH).sub, hΓ v h2 h4, h3.subR fun b hb => by
    have : b ∈ (H' x ++ F).map Prod.fst := by rw [List.map_append]; exact List.mem_append_left _ hb
    exact (hH.map Prod.fst).mem_iff.2 this⟩
theorem rN_ {fn : Func} {s t : Nat} {ad ad' : Addr} {ty ty' : TypeId} {u u' : Value} {a : Act} {w : World} (hr : fn.results = #[.cell s ty, .cell t ty']) (ha : ∀ w, (isAgg ty).run P w = .ok false w) (ha' : ∀ w, (isAgg ty').run P w = .ok false w) (h1 : Fr.sat N fr a) (hs : Fr.get fr s = some (.pointer (some ad))) (ht : Fr.get fr t = some (.pointer (some ad')))
    (hc : w.cell? ad = some u) (hc' : w.cell? ad' = some u') : (results fn a.tmps).run P w = .ok (.tuple #[u, u']) w := by
  have e := h1.val s _ hs
  have e' := h1.val t _ ht
  simp [results, hr, e, e', asAddr, dd_ ha hc, dd_ ha' hc']
theorem jK_ {b : Nat} {cs : List Value} {T : TypeId} {fz : Nat × Nat} {v : Vw} (j : Nat) {u : Value} (h : (dZ_ b (.cells cs.toArray T fz)).p v) (hu : cs[j]? = some u) : v.w.cell? ⟨b, j, none⟩ = some u := by
  simp [World.cell?, h.2, hu]
theorem aa_ {t : TypeId} {x : Operand} {b off : Nat} {cs : List Value} {T : TypeId} {fz : Nat × Nat} {u : Value} {ty : TypeId} (ha : ∀ w, (isAgg t).run P w = .ok false w) (hx : Fr.ev fr x = some (.pointer (some ⟨b, off, none⟩))) (ho : ∀ v, v.sat H → aI_ Γ v → (dZ_ b (.cells cs.toArray T fz)).p v) (hu : cs[off]? = some u) : Yld P N fr H Γ (.load t x) ty u :=
  gY_ hx fun v h2 h4 => dd_ ha (jK_ off (ho v h2 h4) hu)
end
end Go.Sx
namespace Go.Vs
open Go Go.Sx
namespace Con
def text : Con → Str
  | mk k nm lo hi _ _ ps =>
    if k = 1 then [101, 118, 101, 114, 121, 116, 104, 105, 110, 103]
    else if k = 2 then [110, 111, 116, 104, 105, 110, 103]
    else if k = 3 then nm
    else if k = 4 then [123] ++ nm ++ [125]
    else if k = 5 then Lib.join (operands ps) [32, 97, 110, 100, 32]
    else if k = 6 then Lib.join [[115, 111, 109, 101], nm, (operands ps).headD []] [32]
    else Lib.join [nm, [105, 110], Lib.itoa lo, [116, 111], Lib.itoa hi] [32]
where operands : List Con → List Str
  | [] => []
  | p :: ps => (if p.kind = 5 then [40] ++ text p ++ [41] else text p) :: operands ps
def operand (c : Con) : Str := if c.kind = 5 then [40] ++ c.text ++ [41] else c.text
theorem iH_ : ∀ (ps : List Con), text.operands ps = ps.map operand
  | [] => rfl
  | p :: ps => by simp only [text.operands, List.map_cons, iH_ ps, operand]
theorem text_eq (c : Con) : c.text =
    if c.kind = 1 then [101, 118, 101, 114, 121, 116, 104, 105, 110, 103]
    else if c.kind = 2 then [110, 111, 116, 104, 105, 110, 103]
    else if c.kind = 3 then c.name
    else if c.kind = 4 then [123] ++ c.name ++ [125]
    else if c.kind = 5 then Lib.join (c.parts.map operand) [32, 97, 110, 100, 32]
    else if c.kind = 6 then Lib.join [[115, 111, 109, 101], c.name, (c.parts.map operand).headD []] [32]
    else Lib.join [c.name, [105, 110], Lib.itoa c.lo, [116, 111], Lib.itoa c.hi] [32] := by
  cases c; simp only [text, iH_]; rfl
theorem hZ_ (sep : Str) : ∀ (xs : List Str), (Lib.join xs sep).length ≤ (xs.map fun x => x.length + sep.length).sum
  | [] => by simp [Lib.join_nil]
  | [x] => by simp [Lib.join_one]
  | x :: y :: r => by
    have h := hZ_ sep (y :: r)
    have e : Lib.join (x :: y :: r) sep = x ++ sep ++ Lib.join (y :: r) sep := by simp [Lib.join, List.intercalate]
    rw [e]
    simp only [List.length_append, List.map_cons, List.sum_cons] at h ⊢
    omega
def fine (c : Con) : Prop := c.firstErr = 0
theorem gQ_ : ∀ {ps : List Con}, firstErr.firstErrs ps = 0 ↔ ∀ p ∈ ps, p.firstErr = 0
  | [] => by simp [firstErr.firstErrs]
  | p :: ps => by
    simp only [firstErr.firstErrs, List.mem_cons, forall_eq_or_imp]
    by_cases h : p.firstErr = 0
    · simp [h, gQ_ (ps := ps)]
    · simp [h]
theorem ie_ (c : Con) : c.fine ↔ c.fieldErr = 0 ∧ ∀ p ∈ c.parts, p.fine := by
  unfold fine
  rw [iM_]
  by_cases h : c.fieldErr = 0
  · simp [h, gQ_]
  · simp [h]
theorem fine_part {c p : Con} (h : c.fine) (hp : p ∈ c.parts) : p.fine := ((ie_ c).1 h).2 p hp
structure Fields (c : Con) : Prop where
  k1 : 1 ≤ c.kind
  k7 : c.kind ≤ 7
  nm : c.name.length ≤ 24
  le : (nd c.kind).2.1 ≤ c.parts.length
  mo : c.parts.length ≤ (nd c.kind).2.2.1
theorem plain_len {s : Str} (h : bL_ s = true) : s.length ≤ 24 := by
  unfold bL_ at h
  split at h <;> simp_all
theorem reserved_len {s : Str} (h : cU_ s = true) : s.length ≤ 24 := by
  unfold cU_ at h
  simp at h
  omega
theorem fields_of {c : Con} (h : c.fieldErr = 0) : Fields c := by
  unfold fieldErr at h
  split at h
  · cases h
  · rename_i h1
    split at h
    · cases h
    · rename_i h2
      split at h
      · cases h
      · split at h
        · cases h
        · split at h
          · rename_i h5
            simp only [not_or, not_and] at h1 h2
            refine ⟨by omega, by omega, ?_, by omega, by omega⟩
            rcases h5 with h5 | h5 | h5
            · have := h2.2.2 h5
              simp only [ne_eq, Decidable.not_not] at this
              rw [this]; simp
            · exact plain_len h5
            · exact reserved_len h5.2
          · cases h
theorem fields {c : Con} (h : c.fine) : Fields c := fields_of ((ie_ c).1 h).1
theorem text_len : ∀ (m : Nat) (c : Con), c.sz ≤ m → c.ok → c.fine → c.text.length + 10 ≤ 100 * c.sz
  | 0, c, h => by have := c.sz_pos; omega
  | m + 1, c, h => fun hok hf => by
    have F := fields hf
    have hz := c.sz_pos
    have hpart : ∀ p ∈ c.parts, p.operand.length + 8 ≤ 100 * p.sz := fun p hp => by
      have := text_len m p (by have := sz_part hp; omega) (ok_part hok hp) (fine_part hf hp)
      unfold operand
      split <;> simp <;> omega
    have hsum : (c.parts.map fun p => p.operand.length + 5).sum ≤ 100 * (c.sz - 1) := by
      have key : ∀ ps : List Con, (∀ p ∈ ps, p.operand.length + 8 ≤ 100 * p.sz) → (ps.map fun p => p.operand.length + 5).sum ≤ 100 * sz.szs ps := by
        intro ps
        induction ps with
        | nil => intro _; simp [sz.szs]
        | cons p ps ih =>
          intro hp
          have h1 := hp p (by simp)
          have h2 := ih fun q hq => hp q (by simp [hq])
          simp only [List.map_cons, List.sum_cons, sz.szs]
          omega
      have := key c.parts hpart
      cases c with
      | mk k n l hi a cp ps => simp only [sz, parts] at this ⊢; omega
    rw [text_eq]
    have hlo : (Lib.itoa c.lo).length ≤ 21 := by cases c; exact Lib.itoa_length_le _ hok.2.2.2.1 hok.2.2.2.2.1
    have hhi : (Lib.itoa c.hi).length ≤ 21 := by cases c; exact Lib.itoa_length_le _ hok.2.2.2.2.2.1 hok.2.2.2.2.2.2.1
    have hnm := F.nm
    split
    · simp; omega
    · split
      · simp; omega
      · split
        · omega
        · split
          · simp; omega
          · split
            · have := hZ_ [32, 97, 110, 100, 32] (c.parts.map operand)
              simp only [List.map_map, List.length_cons, List.length_nil] at this
              have e : (c.parts.map ((fun x : Str => x.length + (0 + 1 + 1 + 1 + 1 + 1)) ∘ operand)).sum = (c.parts.map fun p => p.operand.length + 5).sum := rfl
              rw [e] at this
              omega
            · split
              · rename_i h6
                have h1 : 1 ≤ c.parts.length := by have := F.le; rw [h6] at this; simp [nd, el_] at this; omega
                obtain ⟨p, ps, hps⟩ := List.exists_cons_of_length_pos h1
                have := hZ_ [32] [[115, 111, 109, 101], c.name, (c.parts.map operand).headD []]
                simp only [hps, List.map_cons, List.headD_cons, List.map_nil, List.sum_cons, List.sum_nil, List.length_cons, List.length_nil] at this hsum ⊢
                omega
              · have := hZ_ [32] [c.name, [105, 110], Lib.itoa c.lo, [116, 111], Lib.itoa c.hi]
                simp only [List.map_cons, List.map_nil, List.sum_cons, List.sum_nil, List.length_cons, List.length_nil] at this
                omega
theorem lC_ : ∀ (m : Nat) (c : Con), c.sz ≤ m → ∀ d n, (c.fits d n).1 = true → (c.fits d n).2 = n + c.sz
  | 0, c, h => by have := c.sz_pos; omega
  | m + 1, c, h => fun d n ht => by
    rw [fits_eq] at ht ⊢
    split at ht
    · cases ht
    · rename_i hc
      rw [if_neg hc]
      have key : ∀ ps : List Con, (∀ p ∈ ps, p.sz ≤ m) → ∀ n, (fits.fitss ps (d + 1) n).1 = true → (fits.fitss ps (d + 1) n).2 = n + sz.szs ps := by
        intro ps
        induction ps with
        | nil => intro _ n _; simp [fits.fitss, sz.szs]
        | cons p ps ih =>
          intro hp n ht
          simp only [fits.fitss] at ht ⊢
          split at ht
          · rename_i q hq
            have h1 := lC_ m p (hp p (by simp)) (d + 1) n (by rw [hq])
            rw [hq] at h1
            have h2 := ih (fun q hq => hp q (by simp [hq])) q ht
            simp only [sz.szs]
            simp only at h1
            omega
          · cases ht
      have := key c.parts (fun p hp => by have := sz_part hp; omega) (n + 1) ht
      rw [this]
      cases c with
      | mk k nn l hi a cp ps => simp only [sz, parts]; omega
theorem check_zero {c : Con} (h : c.check = 0) : c.fine ∧ c.sz ≤ 64 := by
  unfold check at h
  split at h
  · rename_i hf
    have h1 := lC_ _ c (Nat.le_refl _) 0 0 hf
    have h2 := lD_ _ c (Nat.le_refl _) 0 0 hf
    exact ⟨h, by omega⟩
  · cases h
def textN (c : Con) : Str := if c.check = 0 then c.text else []
theorem textN_len {c : Con} (hok : c.ok) : c.textN.length ≤ 6400 := by
  unfold textN
  split
  · rename_i h
    obtain ⟨h1, h2⟩ := check_zero h
    have := text_len _ c (Nat.le_refl _) hok h1
    omega
  · simp
def atom (c : Con) : Str :=
  if c.kind = 1 then [42] else if c.kind = 2 then [33] else if c.kind = 3 then c.name else if c.kind = 4 then [123] ++ c.name ++ [125] else [60] ++ c.textN ++ [62]
end Con
theorem kC_ {cur : Array Value} {n : Nat} {xs : List Str} (h : cur.toList.take (n * 1) = xs.flatMap bg_) : ∀ (j : Nat) (x : Str), xs[j]? = some x → cur[j]? = some (str x) := by
  intro j x hj
  have h1 := an_ aX_ hj 0 (str x) rfl
  rw [← h, Nat.mul_one, Nat.add_zero] at h1
  rw [List.getElem?_take] at h1
  split at h1
  · simpa using h1
  · cases h1
theorem oq_ (xs : List Str) : ∀ (j : Nat) (x : Str), xs[j]? = some x → (xs.map str).toArray[j]? = some (str x) := by
  intro j x hj
  simp [hj]
end Go.Vs
namespace Go.Sx
open Go
section
variable {P : Program}
theorem jd_ {d : Nat} {xs ys : Array Value} (w : World) : (Op.eqFields d xs ys []).run P w = .ok true w := by simp [Op.eqFields]
theorem cg_ {d : Nat} {xs ys : Array Value} {f : Field} {fs : List Field} {a b : Value} {r s : Bool} {w : World} (hn : (f.name == "_") = false) (hg : ∀ w, (isAgg f.type).run P w = .ok false w) (ha : xs[f.offset]? = some a) (hb : ys[f.offset]? = some b)
    (he : (Op.equalIn d f.type a b).run P w = .ok r w) (hr : (Op.eqFields d xs ys fs).run P w = .ok s w) : (Op.eqFields d xs ys (f :: fs)).run P w = .ok (r && s) w := by
  have hn' : f.name ≠ "_" := by simpa using hn
  simp only [Op.eqFields, hn', ne_eq, not_false_eq_true, if_true, part, Sem.run_bind, hg, Result.andThen_ok, Bool.false_eq_true, if_false, ha, hb, Sem.run_pure, he]
  cases r
  · simp
  · simpa using hr
theorem eqI {d : Nat} {t : TypeId} {k : IntKind} {a b : Int} (h : P.underlying t = some (.int k)) (w : World) : (Op.equalIn (d + 1) t (.int k a) (.int k b)).run P w = .ok (a == b) w := run_equalIn_int w d t k k a b h
theorem eqS {d : Nat} {t : TypeId} {a b : List UInt8} (h : P.underlying t = some .string) (w : World) : (Op.equalIn (d + 1) t (str a) (str b)).run P w = .ok (a == b) w := by
  have := run_equalIn_string w d t ⟨a.toArray⟩ ⟨b.toArray⟩ h
  simp only [ByteArray.toList_eq] at this
  exact this
theorem ckF {e : Bool} {n : Nat} {t : TypeId} {fs : Array Field} {xs : Array Value} {w : World} (hu : P.underlying t = some (.struct fs)) (h : ∀ f ∈ fs.toList, (f.name == "_") = false ∧ (∀ w, (isAgg f.type).run P w = .ok false w) ∧ ∃ a, xs[f.offset]? = some a ∧ (∀ w, (Instr.checkKey e n f.type a).run P w = .ok () w)) :
    (Instr.checkKey e (n + 1) t (.agg xs)).run P w = .ok () w := by
  simp only [Instr.checkKey, Sem.run_bind, run_underlying hu, Result.andThen_ok]
  rw [← Array.forIn_toList]
  generalize fs.toList = l at h
  induction l with
  | nil => simp
  | cons f l ih =>
    obtain ⟨h1, h2, a, h3, h4⟩ := h f (by simp)
    have hn' : f.name ≠ "_" := by simpa using h1
    simp only [List.forIn_cons, hn', ne_eq, not_false_eq_true, if_true, part, Sem.run_bind, h2, Result.andThen_ok, Bool.false_eq_true, if_false, h3, Sem.run_pure, h4]
    exact ih fun g hg => h g (by simp [hg])
theorem if_ {α : Type} [DecidableEq α] {k : TypeId} {fs : Array Field} {val : α → Value} (hu : P.underlying k = some (.struct fs)) (heq : ∀ p q w, (Op.equal k (val p) (val q)).run P w = .ok (decide (p = q)) w) (p : α) :
    ∀ (l : List α) (es : List MapEntry) (i : Nat), es.map (·.key) = l.map val → (p ∉ l → ∀ w, (Instr.findAsking k (val p) es i).run P w = .ok none w) ∧ (p ∈ l → (∀ x ∈ es, x.val = .bool true) → ∃ j, ∀ w, (Instr.findAsking k (val p) es i).run P w = .ok (some (j, .bool true)) w)
  | [], es, i, h => by
    have : es = [] := by simpa using h
    subst this
    simp [Instr.findAsking]
  | q :: l, [], i, h => by simp at h
  | q :: l, e :: es, i, h => by
    simp only [List.map_cons, List.cons.injEq] at h
    have ih := if_ hu heq p l es (i + 1) h.2
    by_cases hpq : p = q
    · subst hpq
      refine ⟨fun hn => absurd List.mem_cons_self hn, fun _ hv => ⟨i, fun w => ?_⟩⟩
      simp only [Instr.findAsking, Sem.run_bind, h.1, heq, Result.andThen_ok, decide_true, if_true, Sem.run_pure, hv e (by simp)]
    · refine ⟨fun hn w => ?_, fun hm hv => ?_⟩
      · simp only [Instr.findAsking, Sem.run_bind, h.1, heq, Result.andThen_ok, hpq, decide_false, Bool.false_eq_true, if_false]
        exact ih.1 (fun h => hn (List.mem_cons_of_mem _ h)) w
      · obtain ⟨j, hj⟩ := ih.2 (by simpa [hpq] using hm) fun x hx => hv x (by simp [hx])
        refine ⟨j, fun w => ?_⟩
        simp only [Instr.findAsking, Sem.run_bind, h.1, heq, Result.andThen_ok, hpq, decide_false, Bool.false_eq_true, if_false]
        exact hj w
theorem gs_ {α : Type} [DecidableEq α] {k : TypeId} {fs : Array Field} {val : α → Value} (hu : P.underlying k = some (.struct fs)) (heq : ∀ p q w, (Op.equal k (val p) (val q)).run P w = .ok (decide (p = q)) w) (p : α) (l : List α) (es : List MapEntry) (h : es.map (·.key) = l.map val) :
    (p ∉ l → dX_ P k (val p) es none) ∧ (p ∈ l → (∀ x ∈ es, x.val = .bool true) → ∃ j, dX_ P k (val p) es (some (j, .bool true))) := by
  have hA := if_ hu heq p l es 0 h
  have hnow : ∀ (e : MapEntry) (r : List MapEntry), Instr.findNow (.struct fs) (val p) (e :: r) 0 = none := fun e r => by simp [Instr.findNow, Instr.sameNow]
  cases es with
  | nil =>
    have : l = [] := by simpa using h.symm
    subst this
    exact ⟨fun _ w => by simp [Instr.findKey, run_underlying hu, Instr.findNow], fun h => by simp at h⟩
  | cons e r =>
    refine ⟨fun hn w => ?_, fun hm hv => ?_⟩
    · simp only [Instr.findKey, Sem.run_bind, run_underlying hu, Result.andThen_ok, hnow]
      exact hA.1 hn w
    · obtain ⟨j, hj⟩ := hA.2 hm hv
      refine ⟨j, fun w => ?_⟩
      simp only [Instr.findKey, Sem.run_bind, run_underlying hu, Result.andThen_ok, hnow]
      exact hj w
end
end Go.Sx
namespace Go.Vs
open Go Go.Sx
structure Pc where
  kind : Int
  a : Str
  b : Str
  c : Str
  r : Str
  s : Str
  t : Str
  lo : Int
  hi : Int
  frm : Int
  deriving DecidableEq
namespace Pc
def cells (p : Pc) : List Value := [.int .i64 p.kind, str p.a, str p.b, str p.c, str p.r, str p.s, str p.t, .int .i64 p.lo, .int .i64 p.hi, .int .i64 p.frm]
def val (p : Pc) : Value := .agg p.cells.toArray
theorem cells_len (p : Pc) : p.cells.length = 10 := rfl
theorem cells_one (p : Pc) : p.cells.all Value.oneCell' = true := rfl
def eqb (p q : Pc) : Bool := (p.kind == q.kind) && ((p.a == q.a) && ((p.b == q.b) && ((p.c == q.c) && ((p.r == q.r) && ((p.s == q.s) && ((p.t == q.t) && ((p.lo == q.lo) && ((p.hi == q.hi) && ((p.frm == q.frm) && true)))))))))
theorem eqb_eq (p q : Pc) : p.eqb q = decide (p = q) := by
  rw [Bool.eq_iff_iff]
  cases p; cases q
  simp [eqb]
end Pc
def ins (frm : Int) (l : List Pc) (p : Pc) : List Pc := if { p with frm := frm } ∈ l then l else l ++ [{ p with frm := frm }]
theorem bP_ (frm : Int) (l : List Pc) (p : Pc) : (ins frm l p).length ≤ l.length + 1 := by unfold ins; split <;> simp
structure Fc where
  kind : Int
  a : Str
  b : Str
  r : Str
  lo : Int
  hi : Int
  deriving DecidableEq
namespace Fc
def cells (p : Fc) : List Value := [.int .i64 p.kind, str p.a, str p.b, str p.r, .int .i64 p.lo, .int .i64 p.hi]
def val (p : Fc) : Value := .agg p.cells.toArray
theorem cells_len (p : Fc) : p.cells.length = 6 := rfl
def eqb (p q : Fc) : Bool := (p.kind == q.kind) && ((p.a == q.a) && ((p.b == q.b) && ((p.r == q.r) && ((p.lo == q.lo) && ((p.hi == q.hi) && true)))))
theorem eqb_eq (p q : Fc) : p.eqb q = decide (p = q) := by
  rw [Bool.eq_iff_iff]
  cases p; cases q
  simp [eqb]
end Fc
end Go.Vs
