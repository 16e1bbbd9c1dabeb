/-
  Part of the proof of the law IncrementChangeSpec over this seat: the small logic, the data, the contracts of functions (no condition).
-/
import Derived.Test.YtpdbbglpbngeiaaGreatDoorQIncrementChangeSpec0
import Derived.WalkKit
import Derived.OrdersHeld
import Derived.Deep.LoopGhost
import Derived.RangeFuncIn
import Derived.RangeFuncLeaves
import Derived.TacticsIn
import Derived.Lib.Bytealg
import Derived.Below
import Derived.MapKept
import Derived.Deep.Draws
import Derived.Sort.Grow
import Derived.Lib.Join
import Derived.Lib.ItoaLen
import Derived.Laws.StructEq
import Derived.Laws.MakeOwn
import Derived.Laws.OwnMore
import Derived.ArgAppend
import Derived.Shelf.Strings.Builder1
import Derived.Shelf.Strings.Builder2
import Derived.Shelf.Strings.OnBuilder
import Derived.Shelf.Small.Bits
import Derived.Shelf.Small.Strs
import Derived.Shelf.Small.Wraps
import Derived.Shelf.Strconv.Itoa0
import Derived.Shelf.Strconv.Itoa1
import Derived.Shelf.LaysM
import Derived.Shelf.Strconv.Itoa2
import Derived.Shelf.Strconv.Itoa3
import Derived.Shelf.Strings.Search1
import Derived.Shelf.Strings.Search2
import Derived.Shelf.Strings.Search3
import Derived.Shelf.Strings.Cut
import Derived.Shelf.Strings.Count
import Derived.Shelf.Strings.Shaped
import Derived.Shelf.Sort.Plain
import Derived.Shelf.Strings.Prefix
import Derived.Shelf.Unicode.DecodeSlow
import Derived.Shelf.Slices.CompactS
import Derived.Shelf.Slices.Cells
import Derived.Shelf.Slices.In.SortNone
import Derived.Test.YtpdbbglpbngeiaaGreatDoorProg
set_option linter.unusedVariables false
set_option linter.unusedSimpArgs false
set_option linter.unusedSectionVars false
namespace Go.Sx
open Go
structure Vw where
  im : Nat → Prop
  w : World
  sl : Prop
abbrev Fr := List (Nat × Value)
abbrev Hp := List (Nat × Obj)
def Fr.get : Fr → Nat → Option Value
  | [], _ => none
  | (t, v) :: r, n => bif Nat.beq t n then some v else Fr.get r n
structure Fr.sat (N : Nat) (fr : Fr) (a : Act) : Prop where
  size : a.tmps.size = N
  defers : a.defers = []
  val : ∀ t v, Fr.get fr t = some v → a.tmps[t]? = some v
structure Vw.sat (v : Vw) (H : Hp) : Prop where
  own : ∀ p, p ∈ H → v.w.heap[p.1]? = some p.2 ∧ ¬ v.im p.1
  nodup : (H.map Prod.fst).Nodup
  lt : ∀ b, v.im b → b < v.w.heap.size
structure Vw.to (v : Vw) (H : Hp) (v' : Vw) (H' : Hp) : Prop where
  os : v'.w.os = v.w.os
  tape : v'.w.tape = v.w.tape
  output : v'.w.output = v.w.output
  size : v.w.heap.size ≤ v'.w.heap.size
  block : ∀ b, b < v.w.heap.size → b ∉ H.map Prod.fst → v'.w.heap[b]? = v.w.heap[b]?
  imUp : ∀ b, v.im b → v'.im b
  imNew : ∀ b, v'.im b → v.im b ∨ b ∈ H.map Prod.fst ∨ v.w.heap.size ≤ b
  hNew : ∀ b, b ∈ H'.map Prod.fst → b ∈ H.map Prod.fst ∨ v.w.heap.size ≤ b
  sl : v'.sl = v.sl
  dr : v.sl ∨ v.w.drawn ≤ v'.w.drawn
structure Vw.le (v v' : Vw) : Prop where
  imUp : ∀ b, v.im b → v'.im b
  block : ∀ b, v.im b → v'.w.heap[b]? = v.w.heap[b]?
  sl : v'.sl = v.sl
structure Fct where
  p : Vw → Prop
  mono : ∀ v v', v.le v' → p v → p v'
def bd_ : List Fct → Vw → Prop
  | [], _ => True
  | f :: l, v => f.p v ∧ bd_ l v
theorem hy_ {a b : List Fct} {v : Vw} : bd_ (a ++ b) v ↔ bd_ a v ∧ bd_ b v := by
  induction a with
  | nil => simp [bd_]
  | cons f l ih => simp [bd_, ih, and_assoc]
theorem ck_ {l : List Fct} {v v' : Vw} (h : v.le v') : bd_ l v → bd_ l v' := by
  induction l with
  | nil => exact fun _ => trivial
  | cons f l ih => exact fun ⟨a, b⟩ => ⟨f.mono _ _ h a, ih b⟩
theorem Vw.to.le {v v' : Vw} {H H' : Hp} (hs : v.sat H) (h : v.to H v' H') : v.le v' :=
  ⟨h.imUp, fun b hb => h.block b (hs.lt b hb) (fun hm => by
    obtain ⟨p, hp, rfl⟩ := List.mem_map.1 hm
    exact (hs.own p hp).2 hb), h.sl⟩
theorem Vw.to.refl (v : Vw) (H : Hp) : v.to H v H :=
  ⟨rfl, rfl, rfl, Nat.le_refl _, fun _ _ _ => rfl, fun _ h => h, fun _ h => .inl h, fun _ h => .inl h, rfl, .inr (Nat.le_refl _)⟩
theorem Vw.to.trans {a b c : Vw} {Ha Hb Hc : Hp} (h : a.to Ha b Hb) (k : b.to Hb c Hc) : a.to Ha c Hc where
  os := k.os.trans h.os
  tape := k.tape.trans h.tape
  output := k.output.trans h.output
  size := Nat.le_trans h.size k.size
  block := fun x hx hn => by
    rw [k.block x (Nat.lt_of_lt_of_le hx h.size) (fun hm => (h.hNew x hm).elim hn (fun hl => by omega))]
    exact h.block x hx hn
  imUp := fun x hx => k.imUp x (h.imUp x hx)
  imNew := fun x hx => by
    rcases k.imNew x hx with h1 | h1 | h1
    · exact h.imNew x h1
    · exact .inr (h.hNew x h1)
    · exact .inr (.inr (Nat.le_trans h.size h1))
  hNew := fun x hx => by
    rcases k.hNew x hx with h1 | h1
    · exact h.hNew x h1
    · exact .inr (Nat.le_trans h.size h1)
  sl := k.sl.trans h.sl
  dr := by
    rcases h.dr with h1 | h1
    · exact .inl h1
    · rcases k.dr with h2 | h2
      · exact .inl (by rw [← h.sl]; exact h2)
      · exact .inr (Nat.le_trans h1 h2)
theorem Vw.to.frame {v v' : Vw} {H H' F : Hp} (hs : v.sat (H ++ F)) (hs' : v'.sat H') (h : v.to H v' H') :
    v'.sat (H' ++ F) ∧ v.to (H ++ F) v' (H' ++ F) := by
  have hnd := hs.nodup
  rw [List.map_append, List.nodup_append] at hnd
  have hF : ∀ p, p ∈ F → p.1 ∉ H.map Prod.fst := fun p hp hm => hnd.2.2 _ hm _ (List.mem_map_of_mem hp) rfl
  have hlt : ∀ p, p ∈ F → p.1 < v.w.heap.size := fun p hp => by
    have := (hs.own p (List.mem_append_right _ hp)).1
    exact (Array.getElem?_eq_some_iff.1 this).1
  have hnew : ∀ p, p ∈ F → p.1 ∉ H'.map Prod.fst := fun p hp hm => by
    rcases h.hNew _ hm with h1 | h1
    · exact hF p hp h1
    · have := hlt p hp; omega
  refine ⟨⟨fun p hp => ?_, ?_, hs'.lt⟩, ?_⟩
  · rcases List.mem_append.1 hp with h1 | h1
    · exact hs'.own p h1
    · have h2 := hs.own p (List.mem_append_right _ h1)
      refine ⟨by rw [h.block _ (hlt p h1) (hF p h1)]; exact h2.1, fun hi => ?_⟩
      rcases h.imNew _ hi with h3 | h3 | h3
      · exact h2.2 h3
      · exact hF p h1 h3
      · have := hlt p h1; omega
  · rw [List.map_append, List.nodup_append]
    refine ⟨hs'.nodup, hnd.2.1, fun x hx y hy e => ?_⟩
    subst e
    obtain ⟨p, hp, rfl⟩ := List.mem_map.1 hy
    exact hnew p hp hx
  · refine ⟨h.os, h.tape, h.output, h.size, fun b hb hn => h.block b hb (fun hm => hn ?_), h.imUp, fun b hb => ?_, fun b hb => ?_, h.sl, h.dr⟩
    · rw [List.map_append]; exact List.mem_append_left _ hm
    · rcases h.imNew b hb with h1 | h1 | h1
      · exact .inl h1
      · exact .inr (.inl (by rw [List.map_append]; exact List.mem_append_left _ h1))
      · exact .inr (.inr h1)
    · rw [List.map_append] at hb ⊢
      rcases List.mem_append.1 hb with h1 | h1
      · rcases h.hNew b h1 with h2 | h2
        · exact .inl (List.mem_append_left _ h2)
        · exact .inr h2
      · exact .inl (List.mem_append_right _ h1)
theorem Vw.sat.perm {v : Vw} {H H' : Hp} (h : v.sat H) (p : H.Perm H') : v.sat H' :=
  ⟨fun x hx => h.own x (p.mem_iff.2 hx), (p.map _).nodup_iff.1 h.nodup, h.lt⟩
theorem Vw.sat.sub {v : Vw} {H F : Hp} (h : v.sat (H ++ F)) : v.sat H :=
  ⟨fun x hx => h.own x (List.mem_append_left _ hx), by have := h.nodup; rw [List.map_append, List.nodup_append] at this; exact this.1, h.lt⟩
theorem Vw.to.permL {v v' : Vw} {H K H' : Hp} (h : v.to H v' H') (p : H.Perm K) : v.to K v' H' := by
  have e : ∀ b, b ∈ H.map Prod.fst ↔ b ∈ K.map Prod.fst := fun b => (p.map _).mem_iff
  exact ⟨h.os, h.tape, h.output, h.size, fun b hb hn => h.block b hb (fun hm => hn ((e b).1 hm)), h.imUp,
    fun b hb => (h.imNew b hb).imp id (Or.imp (e b).1 id), fun b hb => (h.hNew b hb).imp (e b).1 id, h.sl, h.dr⟩
theorem Vw.to.subR {v v' : Vw} {H H' K : Hp} (h : v.to H v' H') (p : ∀ b, b ∈ K.map Prod.fst → b ∈ H'.map Prod.fst) : v.to H v' K :=
  ⟨h.os, h.tape, h.output, h.size, h.block, h.imUp, h.imNew, fun b hb => h.hNew b (p b hb), h.sl, h.dr⟩
def Ok (N : Nat) (v0 : Vw) (H0 : Hp) (k : Act → World → Prop) (fr : Fr) (H : Hp) (Γ : List Fct) : Prop :=
  ∀ a v, Fr.sat N fr a → v.sat H → v0.to H0 v H → bd_ Γ v → k a v.w
inductive Kt where
  | seq (c : Code)
  | blk (id : Nat)
  | inv (J : Act → World → Prop)
def post (P : Program) (R : Exit → Act → World → Prop) : List Kt → Exit → Act → World → Prop
  | [], e, a, w => R e a w
  | .seq c :: K, .normal, a, w => c.wp P (post P R K) a w
  | .seq _ :: K, e, a, w => post P R K e a w
  | .inv J :: _, .normal, a, w => J a w
  | .inv _ :: K, e, a, w => post P R K e a w
  | .blk id :: K, .exit id', a, w => if id' = id then post P R K .normal a w else post P R K (.exit id') a w
  | .blk _ :: K, e, a, w => post P R K e a w
theorem oL_ (P : Program) (R : Exit → Act → World → Prop) (K : List Kt) (a : Act) (w : World) (h : R .ret a w) : post P R K .ret a w := by
  induction K with
  | nil => exact h
  | cons x K ih => cases x <;> exact ih
def unw (id : Nat) : List Kt → Option (List Kt)
  | [] => none
  | .blk i :: K => bif Nat.beq id i then some K else unw id K
  | .seq _ :: K => unw id K
  | .inv _ :: K => unw id K
theorem gE_ {P : Program} {R : Exit → Act → World → Prop} {id : Nat} {K' : List Kt} {a : Act} {w : World} :
    ∀ {K : List Kt}, unw id K = some K' → post P R K' .normal a w → post P R K (.exit id) a w
  | [], h, _ => by simp [unw] at h
  | .seq _ :: K, h, hp => gE_ (K := K) (by simpa [unw] using h) hp
  | .inv _ :: K, h, hp => gE_ (K := K) (by simpa [unw] using h) hp
  | .blk i :: K, h, hp => by
    simp only [unw] at h
    by_cases e : id = i
    · subst e
      simp only [Nat.beq_refl, cond_true, Option.some.injEq] at h
      subst h
      simp only [post, if_true]; exact hp
    · have : Nat.beq id i = false := by
        cases hb : Nat.beq id i
        · rfl
        · exact absurd (Nat.eq_of_beq_eq_true hb) e
      rw [this, cond_false] at h
      simp only [post, e, if_false]
      exact gE_ h hp
def nxt : List Kt → Option (Code × List Kt)
  | .seq c :: K => some (c, K)
  | .blk _ :: K => nxt K
  | _ => none
theorem jZ_ {P : Program} {R : Exit → Act → World → Prop} {c : Code} {K' : List Kt} {a : Act} {w : World} :
    ∀ {K : List Kt}, nxt K = some (c, K') → c.wp P (post P R K') a w → post P R K .normal a w
  | [], h, _ => by simp [nxt] at h
  | .seq _ :: K, h, hp => by simp only [nxt, Option.some.injEq, Prod.mk.injEq] at h; obtain ⟨rfl, rfl⟩ := h; exact hp
  | .blk _ :: K, h, hp => jZ_ (K := K) (by simpa [nxt] using h) hp
  | .inv _ :: K, h, _ => by simp [nxt] at h
def gX_ : List Kt → Option (Act → World → Prop)
  | .inv J :: _ => some J
  | .blk _ :: K => gX_ K
  | _ => none
theorem lw_ {P : Program} {R : Exit → Act → World → Prop} {J : Act → World → Prop} {a : Act} {w : World} :
    ∀ {K : List Kt}, gX_ K = some J → J a w → post P R K .normal a w
  | [], h, _ => by simp [gX_] at h
  | .inv _ :: K, h, hp => by simp only [gX_, Option.some.injEq] at h; subst h; exact hp
  | .blk _ :: K, h, hp => lw_ (K := K) (by simpa [gX_] using h) hp
  | .seq _ :: K, h, _ => by simp [gX_] at h
def hP_ : List Kt → Bool
  | [] => true
  | .blk _ :: K => hP_ K
  | _ => false
theorem lx_ {P : Program} {R : Exit → Act → World → Prop} {a : Act} {w : World} :
    ∀ {K : List Kt}, hP_ K = true → R .normal a w → post P R K .normal a w
  | [], _, hp => hp
  | .inv _ :: K, h, _ => by simp [hP_] at h
  | .blk _ :: K, h, hp => lx_ (K := K) (by simpa [hP_] using h) hp
  | .seq _ :: K, h, _ => by simp [hP_] at h
section code
variable {P : Program} {N : Nat} {v0 : Vw} {H0 : Hp} {R : Exit → Act → World → Prop} {K : List Kt} {fr : Fr} {H : Hp} {Γ : List Fct}
abbrev Run (P : Program) (R : Exit → Act → World → Prop) (N : Nat) (v0 : Vw) (H0 : Hp) (c : Code) (K : List Kt) (fr : Fr) (H : Hp) (Γ : List Fct) : Prop :=
  Ok N v0 H0 (c.wp P (post P R K)) fr H Γ
abbrev Fin (P : Program) (R : Exit → Act → World → Prop) (N : Nat) (v0 : Vw) (H0 : Hp) (K : List Kt) (fr : Fr) (H : Hp) (Γ : List Fct) : Prop :=
  Ok N v0 H0 (post P R K .normal) fr H Γ
abbrev Ops (P : Program) (R : Exit → Act → World → Prop) (N : Nat) (v0 : Vw) (H0 : Hp) (ops : Array Oper) (l : List Oper) (K : List Kt) (fr : Fr) (H : Hp) (Γ : List Fct) : Prop :=
  Ok N v0 H0 (wpList P ops (post P R K) l) fr H Γ
theorem h_ {x y : Code} (h : Run P R N v0 H0 x (.seq y :: K) fr H Γ) : Run P R N v0 H0 (.seq x y) K fr H Γ :=
  fun a v h1 h2 h3 h4 => wp_seq (wp_mono (h a v h1 h2 h3 h4) fun e a w hq => by cases e <;> exact hq)
theorem R_ {id : Nat} {c : Code} (h : Run P R N v0 H0 c (.blk id :: K) fr H Γ) : Run P R N v0 H0 (.block id c) K fr H Γ :=
  fun a v h1 h2 h3 h4 => wp_block (wp_mono (h a v h1 h2 h3 h4) fun e a w hq => by cases e <;> exact hq)
theorem z_ (h : Fin P R N v0 H0 K fr H Γ) : Run P R N v0 H0 .skip K fr H Γ :=
  fun a v h1 h2 h3 h4 => wp_skip (h a v h1 h2 h3 h4)
theorem au_ {id : Nat} {K' : List Kt} (hu : unw id K = some K') (h : Fin P R N v0 H0 K' fr H Γ) : Run P R N v0 H0 (.exit id) K fr H Γ :=
  fun a v h1 h2 h3 h4 => wp_exit (gE_ hu (h a v h1 h2 h3 h4))
theorem F_ (h : Ok N v0 H0 (R .ret) fr H Γ) : Run P R N v0 H0 .ret K fr H Γ :=
  fun a v h1 h2 h3 h4 => wp_ret (oL_ P R K a v.w (h a v h1 h2 h3 h4))
theorem b_ {c : Code} {K' : List Kt} (hn : nxt K = some (c, K')) (h : Run P R N v0 H0 c K' fr H Γ) : Fin P R N v0 H0 K fr H Γ :=
  fun a v h1 h2 h3 h4 => jZ_ hn (h a v h1 h2 h3 h4)
theorem w_ {J : Act → World → Prop} (hn : gX_ K = some J) (h : Ok N v0 H0 J fr H Γ) : Fin P R N v0 H0 K fr H Γ :=
  fun a v h1 h2 h3 h4 => lw_ hn (h a v h1 h2 h3 h4)
theorem bx_ (hn : hP_ K = true) (h : Ok N v0 H0 (R .normal) fr H Γ) : Fin P R N v0 H0 K fr H Γ :=
  fun a v h1 h2 h3 h4 => lx_ hn (h a v h1 h2 h3 h4)
theorem c_ {id : Nat} {l : List Oper} (h : Ops P R N v0 H0 l.toArray l K fr H Γ) : Run P R N v0 H0 (.region id l.toArray false) K fr H Γ :=
  fun a v h1 h2 h3 h4 => wp_region_lit (h a v h1 h2 h3 h4)
theorem e_ {ops : Array Oper} (h : Fin P R N v0 H0 K fr H Γ) : Ops P R N v0 H0 ops [] K fr H Γ :=
  fun a v h1 h2 h3 h4 => wpList_nil (h a v h1 h2 h3 h4)
def Fr.ev (fr : Fr) : Operand → Option Value
  | .tmp t => Fr.get fr t
  | .const v => some v
  | .global g => some (.pointer (some ⟨g, 0, none⟩))
  | .func f => some (.func (.func f) #[] #[])
theorem Fr.sat.ev {a : Act} {x : Operand} {v : Value} (h : Fr.sat N fr a) (hx : Fr.ev fr x = some v) : a.eval x = v := by
  cases x with
  | tmp t => have := h.val t v hx; simp [Act.eval, this]
  | const c => simpa [Fr.ev, Act.eval] using hx
  | global g => simpa [Fr.ev, Act.eval] using hx
  | func f => simpa [Fr.ev, Act.eval] using hx
theorem Fr.sat.put {a : Act} {d : Nat} {x : Value} (h : Fr.sat N fr a) (hd : Nat.blt d N = true) : Fr.sat N ((d, x) :: fr) (a.put (some d) x) := by
  have hd' : d < N := by simpa [Nat.blt_eq] using hd
  refine ⟨by simp [Act.put, h.size], h.defers, fun t v ht => ?_⟩
  simp only [Fr.get] at ht
  by_cases e : d = t
  · subst e
    simp only [Nat.beq_refl, cond_true, Option.some.injEq] at ht
    subst ht
    simp [Act.put, Array.getElem?_setIfInBounds, h.size, hd']
  · have hb : Nat.beq d t = false := by
      cases hb : Nat.beq d t
      · rfl
      · exact absurd (Nat.eq_of_beq_eq_true hb) e
    rw [hb, cond_false] at ht
    simp only [Act.put]
    rw [Array.getElem?_setIfInBounds_ne e]
    exact h.val t v ht
theorem qe_ {k : Act → World → Prop} (fr' : Fr) (hs : ∀ t v, Fr.get fr' t = some v → Fr.get fr t = some v) (h : Ok N v0 H0 k fr' H Γ) : Ok N v0 H0 k fr H Γ :=
  fun a v h1 h2 h3 h4 => h a v ⟨h1.size, h1.defers, fun t x hx => h1.val t x (hs t x hx)⟩ h2 h3 h4
def Fr.le : Fr → Fr → Prop
  | [], _ => True
  | (t, v) :: r, fr => Fr.get fr t = some v ∧ Fr.le r fr
theorem Fr.le_get {fr' fr : Fr} (h : Fr.le fr' fr) : ∀ t v, Fr.get fr' t = some v → Fr.get fr t = some v := by
  induction fr' with
  | nil => intro t v ht; simp [Fr.get] at ht
  | cons p r ih =>
    obtain ⟨s, u⟩ := p
    intro t v ht
    simp only [Fr.get] at ht
    by_cases e : s = t
    · subst e
      simp only [Nat.beq_refl, cond_true, Option.some.injEq] at ht
      subst ht; exact h.1
    · have hb : Nat.beq s t = false := by
        cases hb : Nat.beq s t
        · rfl
        · exact absurd (Nat.eq_of_beq_eq_true hb) e
      rw [hb, cond_false] at ht
      exact ih h.2 t v ht
theorem ds_ {k : Act → World → Prop} (fr' : Fr) (hs : Fr.le fr' fr) (h : Ok N v0 H0 k fr' H Γ) : Ok N v0 H0 k fr H Γ :=
  qe_ fr' (Fr.le_get hs) h
theorem fl_ {k : Act → World → Prop} {H' F : Hp} {Γ' : List Fct} (hH : H.Perm (H' ++ F)) (hΓ : ∀ v, v.sat H → bd_ Γ v → bd_ Γ' v) (h : Ok N v0 H0 k fr H' Γ') : Ok N v0 H0 k fr H Γ :=
  fun a v h1 h2 h3 h4 => h a v h1 (h2.perm hH).sub (h3.subR fun b hb => by
    have : b ∈ (H' ++ F).map Prod.fst := by rw [List.map_append]; exact List.mem_append_left _ hb
    exact (hH.map Prod.fst).mem_iff.2 this) (hΓ v h2 h4)
theorem gq_ {k : Act → World → Prop} {Γ' : List Fct} (hΓ : ∀ v, v.sat H → bd_ Γ v → bd_ Γ' v) (h : Ok N v0 H0 k fr H Γ') : Ok N v0 H0 k fr H Γ :=
  fun a v h1 h2 h3 h4 => h a v h1 h2 h3 (hΓ v h2 h4)
theorem oR_ {k : Act → World → Prop} {p : Prop} (hp : ∀ v, v.sat H → bd_ Γ v → p) (h : p → Ok N v0 H0 k fr H Γ) : Ok N v0 H0 k fr H Γ :=
  fun a v h1 h2 h3 h4 => h (hp v h2 h4) a v h1 h2 h3 h4
theorem lk_ {c : Operand} {x y : Code} {t : Bool} (hc : Fr.ev fr c = some (.bool t)) (hx : t = true → Run P R N v0 H0 x K fr H Γ) (hy : t = false → Run P R N v0 H0 y K fr H Γ) :
    Run P R N v0 H0 (.cond c x y) K fr H Γ :=
  fun a v h1 h2 h3 h4 => wp_cond_split (h1.ev hc) (fun e => hx e a v h1 h2 h3 h4) (fun e => hy e a v h1 h2 h3 h4)
theorem t_ {c : Operand} {x y : Code} (hc : Fr.ev fr c = some (.bool true)) (hx : Run P R N v0 H0 x K fr H Γ) : Run P R N v0 H0 (.cond c x y) K fr H Γ :=
  lk_ hc (fun _ => hx) (fun e => by cases e)
theorem v_ {c : Operand} {x y : Code} (hc : Fr.ev fr c = some (.bool false)) (hy : Run P R N v0 H0 y K fr H Γ) : Run P R N v0 H0 (.cond c x y) K fr H Γ :=
  lk_ hc (fun e => by cases e) (fun _ => hy)
def pE_ {ι : Type} (N : Nat) (v0 : Vw) (H0 : Hp) (frs : ι → Fr) (Hs : ι → Hp) (Γs : ι → List Fct) (μ : ι → Nat) (n : Nat) (a : Act) (w : World) : Prop :=
  ∃ j v, v.w = w ∧ Fr.sat N (frs j) a ∧ v.sat (Hs j) ∧ v0.to H0 v (Hs j) ∧ bd_ (Γs j) v ∧ μ j < n
theorem dq_ {ι : Type} {c : Code} (frs : ι → Fr) (Hs : ι → Hp) (Γs : ι → List Fct) (μ : ι → Nat) (i0 : ι)
    (round : ∀ i, Run P R N v0 H0 c (.inv (pE_ N v0 H0 frs Hs Γs μ (μ i)) :: K) (frs i) (Hs i) (Γs i)) :
    Run P R N v0 H0 (.loop c) K (frs i0) (Hs i0) (Γs i0) := by
  intro a v h1 h2 h3 h4
  refine wp_loop_ghost (fun n a w => ∃ i v, v.w = w ∧ Fr.sat N (frs i) a ∧ v.sat (Hs i) ∧ v0.to H0 v (Hs i) ∧ bd_ (Γs i) v ∧ μ i = n) (μ i0) ⟨i0, v, rfl, h1, h2, h3, h4, rfl⟩ ?_
  rintro n a w ⟨i, v, rfl, g1, g2, g3, g4, rfl⟩
  refine wp_mono (round i a v g1 g2 g3 g4) fun e a' w' hq => ?_
  cases e with
  | normal =>
    obtain ⟨j, v', e1, k1, k2, k3, k4, hlt⟩ := hq
    exact ⟨μ j, hlt, j, v', e1, k1, k2, k3, k4, rfl⟩
  | exit id => exact hq
  | goto l => exact hq
  | ret => exact hq
  | panic ch => exact hq
  | outgrown => exact hq
theorem aL_ {ι : Type} {c : Code} (frs : ι → Fr) (Hs : ι → Hp) (Γs : ι → List Fct) (μ : ι → Nat) (i0 : ι) {F : Hp} (hfr : Fr.le (frs i0) fr) (hH : H.Perm (Hs i0 ++ F)) (hΓ : ∀ v, v.sat H → bd_ Γ v → bd_ (Γs i0) v)
    (round : ∀ i, Run P R N v0 H0 c (.inv (pE_ N v0 H0 frs Hs Γs μ (μ i)) :: K) (frs i) (Hs i) (Γs i)) : Run P R N v0 H0 (.loop c) K fr H Γ :=
  ds_ _ hfr (fl_ hH hΓ (dq_ frs Hs Γs μ i0 round))
theorem Z_ {ι : Type} {frs : ι → Fr} {Hs : ι → Hp} {Γs : ι → List Fct} {μ : ι → Nat} {n : Nat} (j : ι) {F : Hp} (hμ : μ j < n) (hfr : Fr.le (frs j) fr) (hH : H.Perm (Hs j ++ F))
    (hΓ : ∀ v, v.sat H → bd_ Γ v → bd_ (Γs j) v) : Ok N v0 H0 (pE_ N v0 H0 frs Hs Γs μ n) fr H Γ :=
  ds_ (frs j) hfr (fl_ hH hΓ fun _ v h1 h2 h3 h4 => ⟨j, v, rfl, h1, h2, h3, h4, hμ⟩)
end code
end Go.Sx
namespace Go.Sx
open Go
section ops
variable {P : Program} {N : Nat} {v0 : Vw} {H0 : Hp} {R : Exit → Act → World → Prop} {K : List Kt} {fr : Fr} {H : Hp} {Γ : List Fct}
variable {ops : Array Oper} {l : List Oper} {d : Nat} {ty : TypeId} {ps : String} {af : Array Edge}
theorem cZ_ {o : Oper} (hg : o.guard = none) (h : ∀ a v, Fr.sat N fr a → v.sat H → v0.to H0 v H → bd_ Γ v → o.wp P a v.w (wpList P ops (post P R K) l) (post P R K)) :
    Ops P R N v0 H0 ops (o :: l) K fr H Γ :=
  fun a v h1 h2 h3 h4 => wpList_plain hg fun K' hK => Oper.wp_mono hK (h a v h1 h2 h3 h4)
def Yld (P : Program) (N : Nat) (fr : Fr) (H : Hp) (Γ : List Fct) (op : Op) (ty : TypeId) (x : Value) : Prop :=
  ∀ a v, Fr.sat N fr a → v.sat H → bd_ Γ v → ∀ d ps af, (execOp a.eval ⟨d, op, ty, ps, af, none⟩).run P v.w = .ok (.value x) v.w
theorem a_ {op : Op} {x : Value} (he : Yld P N fr H Γ op ty x) (hN : Nat.blt d N = true)
    (hk : Ops P R N v0 H0 ops l K ((d, x) :: fr) H Γ) : Ops P R N v0 H0 ops (⟨some d, op, ty, ps, af, none⟩ :: l) K fr H Γ :=
  cZ_ rfl fun a v h1 h2 h3 h4 => by
    unfold Oper.wp
    rw [he a v h1 h2 h4 (some d) ps af]
    exact hk _ v (h1.put hN) h2 h3 h4
theorem x_ {op : Op} {X : Bool} (he : Yld P N fr H Γ op ty (.bool X)) (hN : Nat.blt d N = true)
    (hk : ∀ r : Bool, X = r → Ops P R N v0 H0 ops l K ((d, .bool r) :: fr) H Γ) : Ops P R N v0 H0 ops (⟨some d, op, ty, ps, af, none⟩ :: l) K fr H Γ :=
  a_ he hN (hk X rfl)
def hz_ (ops : Array Oper) (j : Nat) : Option Nat := (ops[j]?).bind (·.dst)
theorem fN_ {a : Act} {j t : Nat} {x : Value} (h : Fr.sat N fr a) (hj : hz_ ops j = some t) (hx : Fr.get fr t = some x) :
    yielded ops a.tmps j = match x with | .bool b => some b | _ => none := by
  have e : ((ops[j]?).bind (·.dst)).bind (a.tmps[·]?) = some x := by
    show (hz_ ops j).bind _ = _
    rw [hj]; exact h.val t x hx
  unfold yielded
  rw [e]
  cases x <;> rfl
theorem p_ {op : Op} {dst : Option Nat} {j t : Nat} {want : Bool} (hj : hz_ ops j = some t) (hx : Fr.get fr t = some (.bool want))
    (h : Ops P R N v0 H0 ops (⟨dst, op, ty, ps, af, none⟩ :: l) K fr H Γ) : Ops P R N v0 H0 ops (⟨dst, op, ty, ps, af, some (j, want)⟩ :: l) K fr H Γ :=
  fun a v h1 h2 h3 h4 => by
    have hw : Region.wanted (⟨dst, op, ty, ps, af, some (j, want)⟩ : Oper) (yielded ops a.tmps) = true := by
      simp [Region.wanted, fN_ h1 hj hx]
    have hw' : Region.wanted (⟨dst, op, ty, ps, af, none⟩ : Oper) (yielded ops a.tmps) = true := rfl
    have := h a v h1 h2 h3 h4
    unfold wpList at this ⊢
    rw [if_pos hw'] at this
    rw [if_pos hw]
    exact this
theorem r_ {op : Op} {j t : Nat} {want : Bool} {x : Value} (hj : hz_ ops j = some t) (hx : Fr.get fr t = some x) (hne : (match x with | .bool b => Bool.xor b want | _ => true) = true) (hN : Nat.blt d N = true)
    (h : Ops P R N v0 H0 ops l K ((d, undef) :: fr) H Γ) : Ops P R N v0 H0 ops (⟨some d, op, ty, ps, af, some (j, want)⟩ :: l) K fr H Γ :=
  fun a v h1 h2 h3 h4 => by
    have hw : Region.wanted (⟨some d, op, ty, ps, af, some (j, want)⟩ : Oper) (yielded ops a.tmps) = false := by
      simp only [Region.wanted, fN_ h1 hj hx]
      cases x <;> first | rfl | (rename_i b; cases b <;> cases want <;> simp_all)
    exact wpList_skip hw (h _ v (h1.put hN) h2 h3 h4)
theorem d_ {x : Operand} {u : Value} (hx : Fr.ev fr x = some u) :
    Yld P N fr H Γ (.move x) ty (u) :=
  fun a v h1 _ _ _ _ _ => by rw [← h1.ev hx]; rfl
theorem g_ {x : Operand} {u : Value} (hx : Fr.ev fr x = some u) :
    Yld P N fr H Γ (.assign x) ty (u) :=
  fun a v h1 _ _ _ _ _ => by rw [← h1.ev hx]; rfl
theorem H_ {c x y : Operand} {u : Value} (hc : Fr.ev fr c = some (.bool true)) (hx : Fr.ev fr x = some u) :
    Yld P N fr H Γ (.pick c x y) ty (u) :=
  fun a v h1 _ _ _ _ _ => by simp [execOp, h1.ev hc, h1.ev hx, asBool]
theorem C_ {c x y : Operand} {u : Value} (hc : Fr.ev fr c = some (.bool false)) (hx : Fr.ev fr y = some u) :
    Yld P N fr H Γ (.pick c x y) ty (u) :=
  fun a v h1 _ _ _ _ _ => by simp [execOp, h1.ev hc, h1.ev hx, asBool]
theorem aM_ {t t' : TypeId} {x y : Operand} {k : IntKind} {m n : Int} (hx : Fr.ev fr x = some (.int k m)) (hy : Fr.ev fr y = some (.int k n)) :
    Yld P N fr H Γ (.binOp .eql t x y t') ty (.bool ((m == n))) :=
  fun a v h1 _ _ _ _ _ => by simp [execOp, h1.ev hx, h1.ev hy, eqGuard, binOp, Op.intCmp]
theorem bN_ {t t' : TypeId} {x y : Operand} {k : IntKind} {m n : Int} (hx : Fr.ev fr x = some (.int k m)) (hy : Fr.ev fr y = some (.int k n)) :
    Yld P N fr H Γ (.binOp .neq t x y t') ty (.bool ((m != n))) :=
  fun a v h1 _ _ _ _ _ => by simp [execOp, h1.ev hx, h1.ev hy, eqGuard, binOp, Op.intCmp]
theorem av_ {t t' : TypeId} {x y : Operand} {k : IntKind} {m n : Int} (hx : Fr.ev fr x = some (.int k m)) (hy : Fr.ev fr y = some (.int k n)) :
    Yld P N fr H Γ (.binOp .lss t x y t') ty (.bool (decide (m < n))) :=
  fun a v h1 _ _ _ _ _ => by simp [execOp, h1.ev hx, h1.ev hy, eqGuard, binOp, Op.intCmp]
theorem cf_ {t t' : TypeId} {x y : Operand} {k : IntKind} {m n : Int} (hx : Fr.ev fr x = some (.int k m)) (hy : Fr.ev fr y = some (.int k n)) :
    Yld P N fr H Γ (.binOp .leq t x y t') ty (.bool (decide (m ≤ n))) :=
  fun a v h1 _ _ _ _ _ => by simp [execOp, h1.ev hx, h1.ev hy, eqGuard, binOp, Op.intCmp]
theorem bR_ {t t' : TypeId} {x y : Operand} {k : IntKind} {m n : Int} (hx : Fr.ev fr x = some (.int k m)) (hy : Fr.ev fr y = some (.int k n)) :
    Yld P N fr H Γ (.binOp .gtr t x y t') ty (.bool (decide (n < m))) :=
  fun a v h1 _ _ _ _ _ => by simp [execOp, h1.ev hx, h1.ev hy, eqGuard, binOp, Op.intCmp]
theorem cG_ {t t' : TypeId} {x y : Operand} {k : IntKind} {m n : Int} (hx : Fr.ev fr x = some (.int k m)) (hy : Fr.ev fr y = some (.int k n)) :
    Yld P N fr H Γ (.binOp .geq t x y t') ty (.bool (decide (n ≤ m))) :=
  fun a v h1 _ _ _ _ _ => by simp [execOp, h1.ev hx, h1.ev hy, eqGuard, binOp, Op.intCmp]
def pl_ : BinOp → Int → Int → Option Int
  | .add, a, b => some (a + b)
  | .sub, a, b => some (a - b)
  | .mul, a, b => some (a * b)
  | _, _, _ => none
theorem M_ {op : BinOp} {t t' : TypeId} {x y : Operand} {k : IntKind} {m n r : Int} (hx : Fr.ev fr x = some (.int k m)) (hy : Fr.ev fr y = some (.int k n)) (hr : pl_ op m n = some r) (hw : k.wrap r = r) :
    Yld P N fr H Γ (.binOp op t x y t') ty (.int k r) :=
  fun a v h1 _ _ _ _ _ => by
    cases op <;> simp only [pl_, Option.some.injEq, reduceCtorEq] at hr <;> subst hr <;>
      simp [execOp, h1.ev hx, h1.ev hy, eqGuard, binOp, Op.intArith, hw]
theorem af_ {r : Int} (h1 : -9223372036854775808 ≤ r) (h2 : r ≤ 9223372036854775807) : IntKind.wrap .i64 r = r := by
  exact IntWalk.i64_in r ⟨h1, h2⟩
theorem ce_ {x : Operand} {t : TypeId} {b : Bool} (hx : Fr.ev fr x = some (.bool b)) :
    Yld P N fr H Γ (.unOp .not t x) ty (.bool !b) :=
  fun a v h1 _ _ _ _ _ => by simp [execOp, h1.ev hx, Op.unary]
def lg : List Value → Nat → Option Value
  | [], _ => none
  | x :: _, 0 => some x
  | _ :: r, n + 1 => lg r n
theorem lg_eq : ∀ (c : List Value) (i : Nat), lg c i = c[i]?
  | [], i => by simp [lg]
  | x :: r, 0 => rfl
  | x :: r, n + 1 => by simpa [lg] using lg_eq r n
def oZ_ : List Value → Nat → Nat → Option (List Value)
  | _, _, 0 => some []
  | c, off, n + 1 => match lg c off with
    | some x => match oZ_ c (off + 1) n with
      | some r => some (x :: r)
      | none => none
    | none => none
theorem kh_ : ∀ (n off : Nat) (c r : List Value), oZ_ c off n = some r → r.length = n ∧ ∀ j v, r[j]? = some v → c[off + j]? = some v
  | 0, off, c, r, h => by simp only [oZ_, Option.some.injEq] at h; subst h; exact ⟨rfl, by simp⟩
  | n + 1, off, c, r, h => by
    simp only [oZ_] at h
    split at h
    · rename_i x hx
      split at h
      · rename_i q hq
        simp only [Option.some.injEq] at h; subst h
        obtain ⟨h1, h2⟩ := kh_ n (off + 1) c q hq
        refine ⟨by simp [h1], fun j v hj => ?_⟩
        cases j with
        | zero => simp only [List.getElem?_cons_zero, Option.some.injEq] at hj; subst hj; rw [← lg_eq]; exact hx
        | succ j => rw [show off + (j + 1) = off + 1 + j by omega]; exact h2 j v (by simpa using hj)
      · cases h
    · cases h
theorem cU_ (b off n : Nat) : (⟨b, off, none⟩ : Addr).add n = ⟨b, off + n, none⟩ := by unfold Addr.add; split <;> simp_all
theorem eO_ {t : TypeId} {w : World} {ad : Addr} {x : Value} (ha : ∀ w, (isAgg t).run P w = .ok false w) (hc : w.cell? ad = some x) : (loadVar t ad).run P w = .ok x w := by
  simp [loadVar, ha, hc]
theorem dn_ {t : TypeId} {w : World} {b off n : Nat} {cs : List Value} (ha : ∀ w, (isAgg t).run P w = .ok true w) (hs : ∀ w, (sizeOf t).run P w = .ok n w) (hn : cs.length = n)
    (hc : ∀ j v, cs[j]? = some v → w.cell? ⟨b, off + j, none⟩ = some v) : (loadVar t ⟨b, off, none⟩).run P w = .ok (.agg cs.toArray) w := by
  have := run_loadCells_list (P := P) w ⟨b, off, none⟩ cs (fun j v hj => by rw [cU_]; exact hc j v hj)
  rw [hn] at this
  simp [loadVar, ha, hs, this]
theorem fy_ {v : Vw} {i b : Nat} {cur : Array Value} {T : TypeId} {fz : Nat × Nat} (h : v.sat H) (hi : H[i]? = some (b, .cells cur T fz)) (j : Nat) : v.w.cell? ⟨b, j, none⟩ = cur.toList[j]? := by
  have := (h.own _ (List.mem_of_getElem? hi)).1
  simp [World.cell?, this]
theorem u_ {t : TypeId} {x : Operand} {b off : Nat} (i : Nat) {cur : Array Value} {T : TypeId} {fz : Nat × Nat} {u : Value} (ha : ∀ w, (isAgg t).run P w = .ok false w)
    (hx : Fr.ev fr x = some (.pointer (some ⟨b, off, none⟩))) (hi : H[i]? = some (b, .cells cur T fz)) (hu : lg cur.toList off = some u) :
    Yld P N fr H Γ (.load t x) ty (u) :=
  fun a v h1 h2 _ _ _ _ => by
    have := eO_ (P := P) (w := v.w) ha (show v.w.cell? ⟨b, off, none⟩ = some u by rw [fy_ h2 hi, ← lg_eq]; exact hu)
    simp [execOp, h1.ev hx, Instr.loadAt, Instr.sureAddr, this]
theorem Y_ {t : TypeId} {x : Operand} {b off n : Nat} (i : Nat) {cur : Array Value} {T : TypeId} {fz : Nat × Nat} {us : List Value} (ha : ∀ w, (isAgg t).run P w = .ok true w) (hs : ∀ w, (sizeOf t).run P w = .ok n w)
    (hx : Fr.ev fr x = some (.pointer (some ⟨b, off, none⟩))) (hi : H[i]? = some (b, .cells cur T fz)) (hu : oZ_ cur.toList off n = some us) :
    Yld P N fr H Γ (.load t x) ty (.agg us.toArray) :=
  fun a v h1 h2 _ _ _ _ => by
    obtain ⟨e1, e2⟩ := kh_ n off _ _ hu
    have := dn_ (P := P) (w := v.w) (b := b) (off := off) ha hs e1 (fun j y hj => by rw [fy_ h2 hi]; exact e2 j y hj)
    simp [execOp, h1.ev hx, Instr.loadAt, Instr.sureAddr, this]
theorem gA_ {t : TypeId} {x : Operand} {ad : Addr} {u : Value} (hx : Fr.ev fr x = some (.pointer (some ad))) (hu : ∀ v, v.sat H → bd_ Γ v → (loadVar t ad).run P v.w = .ok u v.w) :
    Yld P N fr H Γ (.load t x) ty (u) :=
  fun a v h1 h2 h4 _ _ _ => by simp [execOp, h1.ev hx, Instr.loadAt, Instr.sureAddr, hu v h2 h4]
theorem pP_ {v : Vw} {w' : World} {o : Obj} (h : v.sat H) (e0 : w'.heap = v.w.heap.push o) (e1 : w'.os = v.w.os) (e2 : w'.tape = v.w.tape) (e3 : w'.output = v.w.output) (ed : v.w.drawn ≤ w'.drawn) :
    (⟨v.im, w', v.sl⟩ : Vw).sat ((v.w.heap.size, o) :: H) ∧ v.to H ⟨v.im, w', v.sl⟩ ((v.w.heap.size, o) :: H) := by
  have hb : ∀ k, k < v.w.heap.size → w'.heap[k]? = v.w.heap[k]? := fun k hk => by rw [e0, Array.getElem?_push, if_neg (by omega)]
  have hlt : ∀ p, p ∈ H → p.1 < v.w.heap.size := fun p hp => (Array.getElem?_eq_some_iff.1 (h.own p hp).1).1
  refine ⟨⟨fun p hp => ?_, ?_, fun b hb' => ?_⟩, e1, e2, e3, by simp [e0], fun b h1 _ => hb b h1, fun _ h => h, fun _ h => .inl h, fun b hb' => ?_, rfl, .inr ed⟩
  · rcases List.mem_cons.1 hp with rfl | hp
    · refine ⟨by show w'.heap[v.w.heap.size]? = some o; rw [e0]; simp, fun hi => ?_⟩
      have := h.lt _ hi; simp at this
    · exact ⟨by show w'.heap[p.1]? = _; rw [hb _ (hlt p hp)]; exact (h.own p hp).1, (h.own p hp).2⟩
  · rw [List.map_cons, List.nodup_cons]
    refine ⟨fun hm => ?_, h.nodup⟩
    obtain ⟨p, hp, e⟩ := List.mem_map.1 hm
    have := hlt p hp
    simp at e; omega
  · have := h.lt b hb'
    show b < w'.heap.size
    simp [e0]; omega
  · rw [List.map_cons] at hb'
    rcases List.mem_cons.1 hb' with rfl | h1
    · exact .inr (Nat.le_refl _)
    · exact .inl h1
theorem iS_ {op : Op} {β : Type} {x : β → Nat → Value} {o : β → Obj} (q : β → Prop) (hN : Nat.blt d N = true)
    (he : ∀ a v, Fr.sat N fr a → v.sat H → bd_ Γ v → ∃ y w', q y ∧ (execOp a.eval ⟨some d, op, ty, ps, af, none⟩).run P v.w = .ok (.value (x y v.w.heap.size)) w' ∧ w'.heap = v.w.heap.push (o y) ∧ w'.os = v.w.os ∧ w'.tape = v.w.tape ∧ w'.output = v.w.output ∧ v.w.drawn ≤ w'.drawn)
    (hk : ∀ y b, q y → Ops P R N v0 H0 ops l K ((d, x y b) :: fr) ((b, o y) :: H) Γ) : Ops P R N v0 H0 ops (⟨some d, op, ty, ps, af, none⟩ :: l) K fr H Γ :=
  cZ_ rfl fun a v h1 h2 h3 h4 => by
    obtain ⟨y, w', hq, hr, e0, e1, e2, e3, ed⟩ := he a v h1 h2 h4
    unfold Oper.wp
    rw [hr]
    obtain ⟨g1, g2⟩ := pP_ h2 e0 e1 e2 e3 ed
    exact hk y v.w.heap.size hq _ ⟨v.im, w', v.sl⟩ (h1.put hN) g1 (h3.trans g2) (ck_ (g2.le h2) h4)
theorem fY_ {op : Op} {x : Nat → Value} {o : Obj} (hN : Nat.blt d N = true)
    (he : ∀ a v, Fr.sat N fr a → v.sat H → bd_ Γ v → (execOp a.eval ⟨some d, op, ty, ps, af, none⟩).run P v.w = .ok (.value (x v.w.heap.size)) (v.w.alloc o))
    (hk : ∀ b, Ops P R N v0 H0 ops l K ((d, x b) :: fr) ((b, o) :: H) Γ) : Ops P R N v0 H0 ops (⟨some d, op, ty, ps, af, none⟩ :: l) K fr H Γ :=
  iS_ (β := Unit) (x := fun _ b => x b) (o := fun _ => o) (fun _ => True) hN (fun a v h1 h2 h4 => ⟨(), v.w.alloc o, trivial, he a v h1 h2 h4, rfl, rfl, rfl, rfl, Nat.le_refl _⟩) (fun _ b _ => hk b)
theorem bs_ {t : TypeId} {x : Operand} {u : Value} (hx : Fr.ev fr x = some u) (hN : Nat.blt d N = true)
    (hk : ∀ b, Ops P R N v0 H0 ops l K ((d, .pointer (some ⟨b, 0, none⟩)) :: fr) ((b, .cells u.cells t (0, 0)) :: H) Γ) : Ops P R N v0 H0 ops (⟨some d, .box t x, ty, ps, af, none⟩ :: l) K fr H Γ :=
  fY_ (x := fun b => .pointer (some ⟨b, 0, none⟩)) hN (fun a v h1 _ _ => by simp [execOp, h1.ev hx, Instr.box, newVar, newRow, newObj]; rfl) hk
theorem ao_ {t : TypeId} {z : Value} (hz : ∀ w, (zeroValue t).run P w = .ok z w) (hN : Nat.blt d N = true)
    (hk : ∀ b, Ops P R N v0 H0 ops l K ((d, .pointer (some ⟨b, 0, none⟩)) :: fr) ((b, .cells z.cells t (0, 0)) :: H) Γ) : Ops P R N v0 H0 ops (⟨some d, .alloc t, ty, ps, af, none⟩ :: l) K fr H Γ :=
  fY_ (x := fun b => .pointer (some ⟨b, 0, none⟩)) hN (fun a v h1 _ _ => by simp [execOp, hz, Instr.alloc, newVar, newRow, newObj]; rfl) hk
theorem hp_ {v : Vw} {i b : Nat} {o o' : Obj} {w' : World} (h : v.sat H) (hi : H[i]? = some (b, o)) (e1 : w'.os = v.w.os) (e2 : w'.tape = v.w.tape) (e3 : w'.output = v.w.output) (ed : v.w.drawn ≤ w'.drawn) (e4 : w'.heap.size = v.w.heap.size)
    (e5 : w'.heap[b]? = some o') (e6 : ∀ k, k ≠ b → w'.heap[k]? = v.w.heap[k]?) : (⟨v.im, w', v.sl⟩ : Vw).sat (H.set i (b, o')) ∧ v.to H ⟨v.im, w', v.sl⟩ (H.set i (b, o')) := by
  have hm := List.mem_of_getElem? hi
  have hmap : (H.set i (b, o')).map Prod.fst = H.map Prod.fst := by
    rw [List.map_set]
    apply List.ext_getElem?
    intro j
    rw [List.getElem?_set]
    split
    · rename_i hj; subst hj; rw [List.getElem?_map, hi]; simp [(List.getElem?_eq_some_iff.1 hi).1]
    · rfl
  refine ⟨⟨fun p hp => ?_, by rw [hmap]; exact h.nodup, fun x hx => ?_⟩, e1, e2, e3, by simp [e4], fun x _ hn => e6 x (fun e => hn ?_), fun _ h => h, fun _ h => .inl h, fun x hx => .inl (by rw [hmap] at hx; exact hx), rfl, .inr ed⟩
  · obtain ⟨j, hj⟩ := List.getElem?_of_mem hp
    rw [List.getElem?_set] at hj
    split at hj
    · rename_i hij
      subst hij
      split at hj
      · simp only [Option.some.injEq] at hj; subst hj
        exact ⟨e5, (h.own _ hm).2⟩
      · cases hj
    · rename_i hij
      have hpH := List.mem_of_getElem? hj
      have hne : p.1 ≠ b := fun e => by
        have hnd := h.nodup
        have g1 : (H.map Prod.fst)[i]? = some b := by simp [hi]
        have g2 : (H.map Prod.fst)[j]? = some b := by simp [hj, e]
        obtain ⟨l1, q1⟩ := List.getElem?_eq_some_iff.1 g1
        obtain ⟨l2, q2⟩ := List.getElem?_eq_some_iff.1 g2
        exact hij ((List.getElem_inj hnd).1 (q1.trans q2.symm))
      exact ⟨by show w'.heap[p.1]? = _; rw [e6 _ hne]; exact (h.own p hpH).1, (h.own p hpH).2⟩
  · show x < w'.heap.size
    rw [e4]; exact h.lt x hx
  · subst e; exact List.mem_map.2 ⟨_, hm, rfl⟩
theorem Q_ {t : TypeId} {x y : Operand} {b off n : Nat} (i : Nat) {cur : Array Value} {T : TypeId} {u : Value} (hs : ∀ w, (sizeOf t).run P w = .ok n w)
    (hx : Fr.ev fr x = some (.pointer (some ⟨b, off, none⟩))) (hy : Fr.ev fr y = some u) (hi : H[i]? = some (b, .cells cur T (0, 0))) (hn : u.cells.size = n) (hf : Nat.ble (off + n) cur.size = true) (h1c : u.cells.toList.all Value.oneCell' = true)
    (hk : Ops P R N v0 H0 ops l K fr (H.set i (b, .cells (cur.toList.take off ++ u.cells.toList ++ cur.toList.drop (off + n)).toArray T (0, 0))) Γ) :
    Ops P R N v0 H0 ops (⟨none, .store t x y, ty, ps, af, none⟩ :: l) K fr H Γ :=
  cZ_ rfl fun a v h1 h2 h3 h4 => by
    have hb := (h2.own _ (List.mem_of_getElem? hi)).1
    have hst := run_storeCells_at P b off T u.cells.toList 0 cur v.w hb (by simp [hn]; exact Nat.le_of_ble_eq_true hf) (fun c hc => List.all_eq_true.1 h1c c hc)
    have he : (execOp a.eval ⟨none, .store t x y, ty, ps, af, none⟩).run P v.w = .ok .skip (v.w.setRow b (cur.toList.take off ++ u.cells.toList ++ cur.toList.drop (off + n)).toArray) := by
      simp only [Nat.add_zero, Array.length_toList, hn] at hst
      simp [execOp, h1.ev hx, h1.ev hy, Instr.storeAt, Instr.sureAddr, storeVar, hs, hn, hst]
    unfold Oper.wp
    rw [he]
    obtain ⟨g1, g2⟩ := hp_ (w' := v.w.setRow b (cur.toList.take off ++ u.cells.toList ++ cur.toList.drop (off + n)).toArray) h2 hi rfl rfl rfl (Nat.le_refl _) (by simp) (setRow_heap _ _ _ _ _ _ hb) (fun k hk => setRow_other _ _ _ _ hk)
    exact hk a _ h1 g1 (h3.trans g2) (ck_ (g2.le h2) h4)
theorem l_ {s : TypeId} {x : Operand} {f b off o : Nat} {fs : Array Field} {fd : Field} {n : Nat} (hu : ∀ w, (underlying s).run P w = .ok (.struct fs) w) (hx : Fr.ev fr x = some (.pointer (some ⟨b, off, none⟩))) (hf : fs[f]? = some fd) (ho : fd.offset = o)
    (hs : ∀ w, (sizeOf fd.type).run P w = .ok (n + 1) w) :
    Yld P N fr H Γ (.fieldAddr s x f) ty (.pointer (some ⟨b, off + o, none⟩)) :=
  fun a v h1 h2 _ _ _ _ => by simp [execOp, h1.ev hx, Instr.fieldAt, hu, hf, Instr.sureAddr, fieldPlace, hs, cU_, ho]
theorem fw_ {t e : TypeId} {x y : Operand} {b off len cap n : Nat} {k : IntKind} {i : Int} (hu : ∀ w, (underlying t).run P w = .ok (.slice e) w) (hs : ∀ w, (sizeOf e).run P w = .ok n w)
    (hx : Fr.ev fr x = some (.slice (some ⟨b, off, none⟩) len cap)) (hy : Fr.ev fr y = some (.int k i)) (h0 : 0 ≤ i) (hl : i < len) :
    Yld P N fr H Γ (.indexAddr t x y) ty (.pointer (some ⟨b, off + i.toNat * n, none⟩)) :=
  fun a v h1 h2 _ _ _ _ => by simp [execOp, h1.ev hx, h1.ev hy, Instr.indexAt, hu, asIntOf, hs, cU_, h0, hl]
theorem fM_ {t e : TypeId} {x y : Operand} {b off len n : Nat} {k : IntKind} {i : Int} (hu : ∀ w, (underlying t).run P w = .ok (.array len e) w) (hs : ∀ w, (sizeOf e).run P w = .ok n w)
    (hx : Fr.ev fr x = some (.pointer (some ⟨b, off, none⟩))) (hy : Fr.ev fr y = some (.int k i)) (h0 : 0 ≤ i) (hl : i < len) :
    Yld P N fr H Γ (.indexAddr t x y) ty (.pointer (some ⟨b, off + i.toNat * n, none⟩)) :=
  fun a v h1 h2 _ _ _ _ => by simp [execOp, h1.ev hx, h1.ev hy, Instr.indexAt, hu, asIntOf, hs, Instr.sureAddr, cU_, h0, hl]
theorem ar_ {x : Operand} {ad : Addr} (hx : Fr.ev fr x = some (.pointer (some ad))) :
    Yld P N fr H Γ (.nilCheck x) ty (.pointer (some ad)) :=
  fun a v h1 h2 _ _ _ _ => by simp [execOp, h1.ev hx]
theorem am_ {x : Operand} {t e : TypeId} {ad : Option Addr} {len cap : Nat} (hu : ∀ w, (underlying t).run P w = .ok (.slice e) w) (hx : Fr.ev fr x = some (.slice ad len cap)) :
    Yld P N fr H Γ (.call ⟨.builtin .len, #[x], #[t]⟩) ty (.int .i64 (len : Int)) :=
  fun a v h1 h2 _ _ _ _ => by simp [execOp, resolve, invoke, builtin, Builtin.len_, h1.ev hx, hu, goInt]
theorem ae_ {x : Operand} {i : Nat} {vs : Array Value} {u : Value} (hx : Fr.ev fr x = some (.tuple vs)) (hu : lg vs.toList i = some u) :
    Yld P N fr H Γ (.extract x i) ty (u) :=
  fun a v h1 h2 _ _ _ _ => by
    rw [lg_eq, Array.getElem?_toList] at hu
    simp [execOp, h1.ev hx, Instr.extract, hu]
def str (l : List UInt8) : Value := .string ⟨l.toArray⟩
theorem str_of (s : ByteArray) : Value.string s = str s.data.toList := rfl
theorem aq_ {t t' : TypeId} {x y : Operand} {m n : List UInt8} (hx : Fr.ev fr x = some (str m)) (hy : Fr.ev fr y = some (str n)) :
    Yld P N fr H Γ (.binOp .eql t x y t') ty (.bool ((m == n))) :=
  fun a v h1 _ _ _ _ _ => by simp [execOp, h1.ev hx, h1.ev hy, str, eqGuard, binOp, Op.stringOp]
theorem dL_ {t t' : TypeId} {x y : Operand} {m n : List UInt8} (hx : Fr.ev fr x = some (str m)) (hy : Fr.ev fr y = some (str n)) :
    Yld P N fr H Γ (.binOp .neq t x y t') ty (.bool ((m != n))) :=
  fun a v h1 _ _ _ _ _ => by simp [execOp, h1.ev hx, h1.ev hy, str, eqGuard, binOp, Op.stringOp, bne]
theorem bX_ {x : Operand} {t : TypeId} {m : List UInt8} (hu : ∀ w, (underlying t).run P w = .ok .string w) (hx : Fr.ev fr x = some (str m)) :
    Yld P N fr H Γ (.call ⟨.builtin .len, #[x], #[t]⟩) ty (.int .i64 (m.length : Int)) :=
  fun a v h1 h2 _ _ _ _ => by simp [execOp, resolve, invoke, builtin, Builtin.len_, h1.ev hx, hu, goInt, str]; rfl
theorem bL_ {x y : Operand} {t : TypeId} {m : List UInt8} {k : IntKind} {i : Int} {c : UInt8} (hu : ∀ w, (underlying t).run P w = .ok .string w) (hx : Fr.ev fr x = some (str m)) (hy : Fr.ev fr y = some (.int k i)) (h0 : 0 ≤ i) (hc : m[i.toNat]? = some c) :
    Yld P N fr H Γ (.index t x y) ty (.int .u8 (c.toNat : Int)) :=
  fun a v h1 h2 _ _ _ _ => by
    have hl : i.toNat < m.length := (List.getElem?_eq_some_iff.1 hc).1
    have hg : (⟨m.toArray⟩ : ByteArray)[i.toNat]? = some c := by
      rw [ByteArray.getElem?_lt' _ _ (by simpa [ByteArray.size] using hl)]
      have : (⟨m.toArray⟩ : ByteArray)[i.toNat]'(by simpa [ByteArray.size] using hl) = m[i.toNat] := rfl
      rw [this]; rw [List.getElem?_eq_getElem hl] at hc; exact hc
    simp [execOp, Instr.index, h1.ev hx, h1.ev hy, asIntOf, hu, str, h0, hg]
def fK_ (P : Program) (f : FuncId) : Prop := ∀ args w, (callFunc f args).run P w = .ok (.enter f args) w
theorem callable {f : FuncId} {fn : Func} {c : Code} (hf : P.funcs[f]? = some fn) (hb : fn.body = some c) (hn : (fn.name == "runtime.NumGoroutine") = false) : fK_ P f := by
  intro args w
  have hn' : ¬ fn.name = "runtime.NumGoroutine" := by simpa using hn
  simp [callFunc, run_program, hf, hb, hn']
structure Tri (P : Program) (f : FuncId) (args : Array Value) (H : Hp) (Γ : List Fct) {ι : Type} (ret : ι → Value) (H' : ι → Hp) (Γ' : ι → List Fct) : Prop where
  callable : fK_ P f
  run : ∀ v, v.sat H → bd_ Γ v → Calls P f args v.w fun e w' => ∃ x v', e = .returned (ret x) ∧ v'.w = w' ∧ v'.sat (H' x) ∧ bd_ (Γ' x) v' ∧ v.to H v' (H' x)
def Fr.evs (fr : Fr) : List Operand → Option (List Value)
  | [] => some []
  | x :: r => match Fr.ev fr x with
    | some v => match Fr.evs fr r with
      | some vs => some (v :: vs)
      | none => none
    | none => none
theorem Fr.sat.evs {a : Act} (h : Fr.sat N fr a) : ∀ {xs : List Operand} {vs : List Value}, Fr.evs fr xs = some vs → xs.map a.eval = vs
  | [], vs, e => by simp only [Fr.evs, Option.some.injEq] at e; subst e; rfl
  | x :: r, vs, e => by
    simp only [Fr.evs] at e
    split at e
    · rename_i u hu
      split at e
      · rename_i us hus
        simp only [Option.some.injEq] at e; subst e
        rw [List.map_cons, h.ev hu, h.evs hus]
      · cases e
    · cases e
theorem kc_ {op : Op} {f : FuncId} {vs : List Value} {ι : Type} {Hc F : Hp} {Γc : List Fct} {ret : ι → Value} {H' : ι → Hp} {Γ' : ι → List Fct}
    (hT : Tri P f vs.toArray Hc Γc ret H' Γ') (he : ∀ a v, Fr.sat N fr a → (execOp a.eval ⟨some d, op, ty, ps, af, none⟩).run P v = .ok (.enter f vs.toArray) v)
    (hH : H.Perm (Hc ++ F)) (hΓ : ∀ v, v.sat H → bd_ Γ v → bd_ Γc v) (hN : Nat.blt d N = true)
    (hk : ∀ x, Ops P R N v0 H0 ops l K ((d, ret x) :: fr) (H' x ++ F) (Γ' x ++ Γ)) : Ops P R N v0 H0 ops (⟨some d, op, ty, ps, af, none⟩ :: l) K fr H Γ :=
  cZ_ rfl fun a v h1 h2 h3 h4 => by
    unfold Oper.wp
    rw [he a v.w h1]
    have h2' := h2.perm hH
    refine (hT.run v h2'.sub (hΓ v h2 h4)).mono ?_
    rintro e w' ⟨x, v', rfl, rfl, g1, g2, g3⟩
    obtain ⟨k1, k2⟩ := g3.frame h2' g1
    exact hk x _ v' (h1.put hN) k1 (h3.trans (k2.permL hH.symm)) (hy_.2 ⟨g2, ck_ (k2.le h2') h4⟩)
theorem W_ {f : FuncId} {xs : List Operand} {ats : Array TypeId} {vs : List Value} {ι : Type} {Hc F : Hp} {Γc : List Fct} {ret : ι → Value} {H' : ι → Hp} {Γ' : ι → List Fct}
    (hT : Tri P f vs.toArray Hc Γc ret H' Γ') (hx : Fr.evs fr xs = some vs) (hH : H.Perm (Hc ++ F)) (hΓ : ∀ v, v.sat H → bd_ Γ v → bd_ Γc v) (hN : Nat.blt d N = true)
    (hk : ∀ x, Ops P R N v0 H0 ops l K ((d, ret x) :: fr) (H' x ++ F) (Γ' x ++ Γ)) :
    Ops P R N v0 H0 ops (⟨some d, .call ⟨.value (.func f), xs.toArray, ats⟩, ty, ps, af, none⟩ :: l) K fr H Γ :=
  kc_ hT (fun a w h1 => by
    have := h1.evs hx
    simp [execOp, resolve, Deferred.ofValue, Act.eval, invoke, this, hT.callable _ w]) hH hΓ hN hk
theorem as_ {f : FuncId} {xs : List Operand} {ats : Array TypeId} {vs : List Value} {Hc F : Hp} {Γc : List Fct} {X : Bool}
    (hT : Tri P f vs.toArray Hc Γc (fun _ : Unit => .bool X) (fun _ => Hc) (fun _ => [])) (hx : Fr.evs fr xs = some vs) (hH : H.Perm (Hc ++ F)) (hΓ : ∀ v, v.sat H → bd_ Γ v → bd_ Γc v) (hN : Nat.blt d N = true)
    (hk : ∀ r : Bool, X = r → Ops P R N v0 H0 ops l K ((d, .bool r) :: fr) (Hc ++ F) Γ) :
    Ops P R N v0 H0 ops (⟨some d, .call ⟨.value (.func f), xs.toArray, ats⟩, ty, ps, af, none⟩ :: l) K fr H Γ :=
  W_ hT hx hH hΓ hN fun _ => hk X rfl
end ops
section body
variable {P : Program} {N : Nat} {fr : Fr} {H : Hp} {Γ : List Fct}
def mG_ {ι : Type} (v0 : Vw) (H0 : Hp) (ret : ι → Value) (H' : ι → Hp) (Γ' : ι → List Fct) (e : Ending) (w' : World) : Prop :=
  ∃ x v', e = .returned (ret x) ∧ v'.w = w' ∧ v'.sat (H' x) ∧ bd_ (Γ' x) v' ∧ v0.to H0 v' (H' x)
def jh_ (i : Nat) : List Value → Fr
  | [] => []
  | x :: r => (i, x) :: jh_ (i + 1) r
theorem jg_ : ∀ (l : List Value) (i t : Nat) (v : Value), Fr.get (jh_ i l) t = some v → i ≤ t ∧ l[t - i]? = some v
  | [], i, t, v, h => by simp [jh_, Fr.get] at h
  | x :: r, i, t, v, h => by
    simp only [jh_, Fr.get] at h
    by_cases e : i = t
    · subst e
      simp only [Nat.beq_refl, cond_true, Option.some.injEq] at h
      subst h; simp
    · have hb : Nat.beq i t = false := by
        cases hb : Nat.beq i t
        · rfl
        · exact absurd (Nat.eq_of_beq_eq_true hb) e
      rw [hb, cond_false] at h
      obtain ⟨h1, h2⟩ := jg_ r (i + 1) t v h
      refine ⟨by omega, ?_⟩
      rw [show t - i = (t - (i + 1)) + 1 by omega]; simpa using h2
theorem T_ {f : FuncId} {fn : Func} {c : Code} {args : List Value} {ι : Type} {ret : ι → Value} {H' : ι → Hp} {Γ' : ι → List Fct}
    (hf : P.funcs[f]? = some fn) (hb : fn.body = some c) (hn : (fn.name == "runtime.NumGoroutine") = false) (hN : fn.ntmps = N) (hl : Nat.ble args.length N = true)
    (h : ∀ v0, Run P (bodyPost P fn (mG_ v0 H ret H' Γ')) N v0 H c [] (jh_ 0 args) H Γ) : Tri P f args.toArray H Γ ret H' Γ' := by
  refine ⟨callable hf hb hn, fun v h1 h2 => calls_of_wp hf hb ?_⟩
  have hl' : args.length ≤ N := Nat.le_of_ble_eq_true hl
  have := h v ⟨args.toArray ++ Array.replicate (fn.ntmps - args.toArray.size) undef, []⟩ v ⟨by simp [hN]; omega, rfl, fun t x ht => ?_⟩ h1 (Vw.to.refl _ _) h2
  · exact this
  · obtain ⟨_, h4⟩ := jg_ args 0 t x ht
    simp only [Nat.sub_zero] at h4
    have hlt := (List.getElem?_eq_some_iff.1 h4).1
    rw [Array.getElem?_append_left (by simpa using hlt)]
    simpa using h4
theorem aw_ {fn : Func} {t : Nat} {ι : Type} {v0 : Vw} {H0 F : Hp} {ret : ι → Value} {H' : ι → Hp} {Γ' : ι → List Fct} (hr : fn.results = #[.tmp t]) (x : ι) (hx : Fr.get fr t = some (ret x)) (hH : H.Perm (H' x ++ F))
    (hΓ : ∀ v, v.sat H → bd_ Γ v → bd_ (Γ' x) v) : Ok N v0 H0 (bodyPost P fn (mG_ v0 H0 ret H' Γ') .ret) fr H Γ :=
  fl_ hH hΓ fun a v h1 h2 h3 h4 => ⟨h1.defers, ret x, by rw [results_tmp hr]; have := h1.val t _ hx; simp [this], x, v, rfl, rfl, h2, h4, h3⟩
theorem y_ {t : Nat} {x y : Bool} (h : Fr.get fr t = some (.bool x)) (e : x = y) : Fr.get fr t = some (.bool y) := e ▸ h
theorem cm_ {t : Nat} {k : IntKind} {x y : Int} (h : Fr.get fr t = some (.int k x)) (e : x = y) : Fr.get fr t = some (.int k y) := e ▸ h
theorem bU_ {t : Nat} {x y : Value} (h : Fr.get fr t = some x) (e : x = y) : Fr.get fr t = some y := e ▸ h
abbrev Fn0 (P : Program) (f : FuncId) (args : Array Value) (ret : Value) : Prop := Tri P f args [] [] (fun _ : Unit => ret) (fun _ => []) (fun _ => [])
end body
section cut
variable {P : Program} {N : Nat} {v0 : Vw} {H0 : Hp} {R : Exit → Act → World → Prop} {K : List Kt} {fr : Fr} {H : Hp} {Γ : List Fct}
end cut
end Go.Sx
namespace Go.Sx
open Go
def bv_ (v : Vw) (ad : Option Addr) (cs : List Value) : Prop :=
  cs = [] ∨ ∃ b off arr T fz, ad = some ⟨b, off, none⟩ ∧ v.im b ∧ v.w.heap[b]? = some (.cells arr T fz) ∧ ∀ j x, cs[j]? = some x → arr[off + j]? = some x
def az_ (ad : Option Addr) (cs : List Value) : Fct where
  p := fun v => bv_ v ad cs
  mono := fun v v' h hp => by
    rcases hp with hp | ⟨b, off, arr, T, fz, h1, h2, h3, h4⟩
    · exact .inl hp
    · exact .inr ⟨b, off, arr, T, fz, h1, h.imUp b h2, by rw [h.block b h2]; exact h3, h4⟩
def bas (ad : Option Addr) : Addr := ad.getD ⟨0, 0, none⟩
def rad (ad : Option Addr) (k : Nat) : Addr := ⟨(bas ad).block, (bas ad).off + k, none⟩
theorem bv_.addr {v : Vw} {ad : Option Addr} {cs : List Value} (h : bv_ v ad cs) (hn : cs ≠ []) : ∃ b off, ad = some ⟨b, off, none⟩ := by
  rcases h with h | ⟨b, off, arr, T, fz, h1, _⟩
  · exact absurd h hn
  · exact ⟨b, off, h1⟩
theorem bv_.cell {v : Vw} {ad : Option Addr} {cs : List Value} {k : Nat} {x : Value} (h : bv_ v ad cs) (hx : cs[k]? = some x) : v.w.cell? (rad ad k) = some x := by
  rcases h with h | ⟨b, off, arr, T, fz, rfl, _, h3, h4⟩
  · subst h; simp at hx
  · simp [rad, bas, World.cell?, h3, h4 k x hx]
theorem bv_.drop {v : Vw} {ad : Option Addr} {cs : List Value} (h : bv_ v ad cs) (n : Nat) (ds : List Value) (hs : ∀ j x, ds[j]? = some x → cs[n + j]? = some x) : bv_ v (ad.map (·.add n)) ds := by
  rcases h with h | ⟨b, off, arr, T, fz, rfl, h2, h3, h4⟩
  · subst h
    left
    cases ds with
    | nil => rfl
    | cons d ds => have := hs 0 d rfl; simp at this
  · exact .inr ⟨b, off + n, arr, T, fz, by simp [cU_], h2, h3, fun j x hj => by rw [Nat.add_assoc]; exact h4 _ _ (hs j x hj)⟩
theorem bv_.part {v : Vw} {ad : Option Addr} {cs ds : List Value} (h : bv_ v ad cs) (hs : ∀ (j : Nat) x, ds[j]? = some x → cs[j]? = some x) : bv_ v ad ds := by
  rcases h with h | ⟨b, off, arr, T, fz, rfl, h2, h3, h4⟩
  · subst h
    left
    cases ds with
    | nil => rfl
    | cons d ds => have := hs 0 d rfl; simp at this
  · exact .inr ⟨b, off, arr, T, fz, rfl, h2, h3, fun j x hj => h4 j x (hs j x hj)⟩
theorem kF_ {α : Type} (f : α → List Value) (n : Nat) (hf : ∀ x, (f x).length = n) : ∀ (l : List α) (i j : Nat) (x : α), l[i]? = some x → j < n → (l.flatMap f)[i * n + j]? = (f x)[j]?
  | [], i, j, x, h, _ => by simp at h
  | y :: l, 0, j, x, h, hj => by
    simp only [List.getElem?_cons_zero, Option.some.injEq] at h
    subst h
    simp only [List.flatMap_cons, Nat.zero_mul, Nat.zero_add]
    rw [List.getElem?_append_left (by rw [hf]; exact hj)]
  | y :: l, i + 1, j, x, h, hj => by
    simp only [List.flatMap_cons]
    rw [List.getElem?_append_right (by rw [hf, Nat.add_mul]; omega), hf, show (i + 1) * n + j - n = i * n + j by rw [Nat.add_mul]; omega]
    exact kF_ f n hf l i j x (by simpa using h) hj
theorem bp_ {α : Type} (f : α → List Value) (n : Nat) (hf : ∀ x, (f x).length = n) : ∀ (l : List α), (l.flatMap f).length = l.length * n
  | [] => by simp
  | y :: l => by simp only [List.flatMap_cons, List.length_append, hf, List.length_cons, bp_ f n hf l, Nat.add_mul]; omega
section ops
variable {P : Program} {N : Nat} {v0 : Vw} {H0 : Hp} {R : Exit → Act → World → Prop} {K : List Kt} {fr : Fr} {H : Hp} {Γ : List Fct}
variable {ops : Array Oper} {l : List Oper} {d : Nat} {ty : TypeId} {ps : String} {af : Array Edge}
theorem aa_ {t e : TypeId} {x y : Operand} {ad : Option Addr} {len cap n : Nat} {k : IntKind} {i : Int} (hu : ∀ w, (underlying t).run P w = .ok (.slice e) w) (hs : ∀ w, (sizeOf e).run P w = .ok n w)
    (hx : Fr.ev fr x = some (.slice ad len cap)) (hy : Fr.ev fr y = some (.int k i)) (ha : ∀ v, v.sat H → bd_ Γ v → ∃ b off, ad = some ⟨b, off, none⟩) (h0 : 0 ≤ i) (hl : i < len) :
    Yld P N fr H Γ (.indexAddr t x y) ty (.pointer (some (rad ad (i.toNat * n)))) :=
  fun a v h1 h2 h4 _ _ _ => by
    obtain ⟨b, off, rfl⟩ := ha v h2 h4
    simp [execOp, h1.ev hx, h1.ev hy, Instr.indexAt, hu, asIntOf, hs, cU_, h0, hl, rad, bas]
theorem bV_ {s : TypeId} {x : Operand} {f k o : Nat} {ad : Option Addr} {fs : Array Field} {fd : Field} {n : Nat} (hu : ∀ w, (underlying s).run P w = .ok (.struct fs) w) (hx : Fr.ev fr x = some (.pointer (some (rad ad k)))) (hf : fs[f]? = some fd) (ho : fd.offset = o)
    (hs : ∀ w, (sizeOf fd.type).run P w = .ok (n + 1) w) :
    Yld P N fr H Γ (.fieldAddr s x f) ty (.pointer (some (rad ad (k + o)))) :=
  fun a v h1 h2 _ _ _ _ => by simp [execOp, h1.ev hx, Instr.fieldAt, hu, hf, Instr.sureAddr, fieldPlace, hs, rad, cU_, ho, Nat.add_assoc]
theorem aN_ {t : TypeId} {x : Operand} {ad : Option Addr} {k : Nat} {cs : List Value} {u : Value} (ha : ∀ w, (isAgg t).run P w = .ok false w) (hx : Fr.ev fr x = some (.pointer (some (rad ad k))))
    (hr : ∀ v, v.sat H → bd_ Γ v → bv_ v ad cs) (hu : cs[k]? = some u) : Yld P N fr H Γ (.load t x) ty u :=
  gA_ hx (fun v h2 h4 => eO_ ha ((hr v h2 h4).cell hu))
theorem aU_ {t : TypeId} {x : Operand} {ad : Option Addr} {k n : Nat} {cs us : List Value} (ha : ∀ w, (isAgg t).run P w = .ok true w) (hs : ∀ w, (sizeOf t).run P w = .ok n w) (hx : Fr.ev fr x = some (.pointer (some (rad ad k))))
    (hr : ∀ v, v.sat H → bd_ Γ v → bv_ v ad cs) (hn : us.length = n) (hu : ∀ j y, us[j]? = some y → cs[k + j]? = some y) : Yld P N fr H Γ (.load t x) ty (.agg us.toArray) :=
  gA_ hx (fun v h2 h4 => dn_ ha hs hn (fun j y hj => by
    have := (hr v h2 h4).cell (hu j y hj)
    simpa [rad, Nat.add_assoc] using this))
theorem gG_ {k : Act → World → Prop} {b : Nat} {o : Obj} {F : Hp} (f : Fct) (hH : H.Perm ((b, o) :: F)) (hf : ∀ v : Vw, v.im b → v.w.heap[b]? = some o → bd_ Γ v → f.p v) (h : Ok N v0 H0 k fr F (f :: Γ)) : Ok N v0 H0 k fr H Γ := by
  intro a v h1 h2 h3 h4
  have g := h2.perm hH
  have hb := g.own (b, o) (List.mem_cons_self)
  have hlt : b < v.w.heap.size := (Array.getElem?_eq_some_iff.1 hb.1).1
  have hnd := g.nodup
  rw [List.map_cons, List.nodup_cons] at hnd
  have hle : v.le ⟨fun x => v.im x ∨ x = b, v.w, v.sl⟩ := ⟨fun x hx => .inl hx, fun _ _ => rfl, rfl⟩
  have hmem : b ∈ H.map Prod.fst := (hH.map Prod.fst).mem_iff.2 (by simp)
  refine h a ⟨fun x => v.im x ∨ x = b, v.w, v.sl⟩ h1 ⟨fun p hp => ⟨(g.own p (List.mem_cons_of_mem _ hp)).1, fun hi => ?_⟩, hnd.2, fun x hx => ?_⟩ ?_ ⟨hf _ (.inr rfl) hb.1 (ck_ hle h4), ck_ hle h4⟩
  · rcases hi with hi | hi
    · exact (g.own p (List.mem_cons_of_mem _ hp)).2 hi
    · exact hnd.1 (by have := List.mem_map_of_mem (f := Prod.fst) hp; rw [hi] at this; exact this)
  · rcases hx with hx | hx
    · exact h2.lt x hx
    · exact hx ▸ hlt
  · refine ⟨h3.os, h3.tape, h3.output, h3.size, h3.block, fun x hx => .inl (h3.imUp x hx), fun x hx => ?_, fun x hx => h3.hNew x ((hH.map Prod.fst).mem_iff.2 (by rw [List.map_cons]; exact List.mem_cons_of_mem _ hx)), h3.sl, h3.dr⟩
    rcases hx with hx | hx
    · exact h3.imNew x hx
    · exact .inr (hx ▸ h3.hNew b hmem)
def aQ_ (e : TypeId) (sz : Nat) (sv : Value) (n : Nat) (xs : List Value) (Hr : Hp) : Prop :=
  xs.length = n * sz ∧ ((sv = .slice none 0 0 ∧ n = 0 ∧ Hr = []) ∨
    ∃ g cap cur, sv = .slice (some ⟨g, 0, none⟩) n cap ∧ Hr = [(g, .cells cur e (0, 0))] ∧ n ≤ cap ∧ cap ≤ maxLen ∧ cur.size = cap * sz ∧ cur.toList.take (n * sz) = xs)
theorem aQ_.nil (e : TypeId) (sz : Nat) : aQ_ e sz (.slice none 0 0) 0 [] [] := ⟨by simp, .inl ⟨rfl, rfl, rfl⟩⟩
theorem aQ_.owns {e : TypeId} {sz n : Nat} {sv : Value} {xs : List Value} {Hr F : Hp} {v : Vw} (h : aQ_ e sz sv n xs Hr) (hs : v.sat (Hr ++ F)) : v.w.ownsRow 0 e sz sv n xs := by
  refine ⟨h.1, ?_⟩
  rcases h.2 with ⟨h1, h2, _⟩ | ⟨g, cap, cur, h1, rfl, h3, h4, h5, h6⟩
  · exact .inl ⟨h1, h2⟩
  · exact .inr ⟨g, cap, cur, h1, Nat.zero_le _, (hs.own (g, .cells cur e (0, 0)) (by simp)).1, h3, h4, h5, h6⟩
theorem hV_ {e : TypeId} {sz n n' : Nat} {sv sv' : Value} {xs ys : List Value} {Hr F : Hp} {v : Vw} {w' : World} (h : aQ_ e sz sv n xs Hr) (hs : v.sat (Hr ++ F)) (ho : w'.ownsRow 0 e sz sv' n' ys) (hg : v.w.grownBy w' sv.ownBlock) (hd : v.w.drawn ≤ w'.drawn)
    (hsame : ∀ g, sv'.ownBlock = some g → sv.ownBlock = some g ∨ v.w.heap.size ≤ g) :
    ∃ Hr', aQ_ e sz sv' n' ys Hr' ∧ (⟨v.im, w', v.sl⟩ : Vw).sat (Hr' ++ F) ∧ v.to (Hr ++ F) ⟨v.im, w', v.sl⟩ (Hr' ++ F) := by
  have hlt : ∀ p, p ∈ Hr ++ F → p.1 < v.w.heap.size := fun p hp => (Array.getElem?_eq_some_iff.1 (hs.own p hp).1).1
  have hrow : ∀ b, sv.ownBlock = some b → b ∈ Hr.map Prod.fst := fun b hb => by
    rcases h.2 with ⟨rfl, _, _⟩ | ⟨g, cap, cur, rfl, rfl, _⟩
    · simp [Value.ownBlock] at hb
    · simp [Value.ownBlock] at hb; simp [hb]
  have hnd := hs.nodup
  rw [List.map_append, List.nodup_append] at hnd
  have hF : ∀ p, p ∈ F → some p.1 ≠ sv.ownBlock := fun p hp e => hnd.2.2 _ (hrow p.1 e.symm) _ (List.mem_map_of_mem hp) rfl
  have hFold : ∀ p, p ∈ F → w'.heap[p.1]? = some p.2 ∧ ¬ v.im p.1 := fun p hp => by
    have := hs.own p (List.mem_append_right _ hp)
    exact ⟨by rw [hg.block _ (hlt p (List.mem_append_right _ hp)) (hF p hp)]; exact this.1, this.2⟩
  have hto : ∀ Hr' : Hp, (∀ b, b ∈ Hr'.map Prod.fst → b ∈ Hr.map Prod.fst ∨ v.w.heap.size ≤ b) → v.to (Hr ++ F) ⟨v.im, w', v.sl⟩ (Hr' ++ F) := fun Hr' hh => by
    refine ⟨hg.os, hg.tape, hg.output, hg.size, fun b hb hn => hg.block b hb (fun e => hn ?_), fun _ h => h, fun _ h => .inl h, fun b hb => ?_, rfl, .inr hd⟩
    · rw [List.map_append]; exact List.mem_append_left _ (hrow b e.symm)
    · rw [List.map_append] at hb ⊢
      rcases List.mem_append.1 hb with h1 | h1
      · exact (hh b h1).imp (List.mem_append_left _) id
      · exact .inl (List.mem_append_right _ h1)
  rcases ho.2 with ⟨h1, h2⟩ | ⟨g, cap, cur, h1, _, h3, h4, h5, h6, h7⟩
  · refine ⟨[], ⟨ho.1, .inl ⟨h1, h2, rfl⟩⟩, ⟨fun p hp => hFold p (by simpa using hp), by simpa using hnd.2.1, fun b hb => Nat.lt_of_lt_of_le (hs.lt b hb) hg.size⟩, hto [] (by simp)⟩
  · have hgn : g ∈ Hr.map Prod.fst ∨ v.w.heap.size ≤ g := (hsame g (by rw [h1]; rfl)).imp (hrow g) id
    refine ⟨[(g, .cells cur e (0, 0))], ⟨ho.1, .inr ⟨g, cap, cur, h1, rfl, h4, h5, h6, h7⟩⟩, ⟨fun p hp => ?_, ?_, fun b hb => Nat.lt_of_lt_of_le (hs.lt b hb) hg.size⟩, hto _ (by simpa using hgn)⟩
    · rcases List.mem_append.1 hp with hp | hp
      · simp only [List.mem_singleton] at hp
        subst hp
        refine ⟨h3, fun hi => ?_⟩
        rcases hgn with hgn | hgn
        · obtain ⟨q, hq, rfl⟩ := List.mem_map.1 hgn
          exact (hs.own q (List.mem_append_left _ hq)).2 hi
        · have := hs.lt _ hi; omega
      · exact hFold p hp
    · simp only [List.map_append, List.map_cons, List.map_nil, List.singleton_append, List.nodup_cons]
      refine ⟨fun hm => ?_, hnd.2.1⟩
      obtain ⟨q, hq, e⟩ := List.mem_map.1 hm
      rcases hgn with hgn | hgn
      · exact hnd.2.2 _ hgn _ (List.mem_map_of_mem hq) e.symm
      · have := hlt q (List.mem_append_right _ hq); omega
theorem kO_ (w : World) {t ty' e : TypeId} {i : TypeInfo} {z : Value} {n m c sz : Nat} {sv v' : Value} {w' : World} {xs news : List Value} {ad : Addr} (ht : P.underlying t = some (.slice e)) (hi : P.info? e = some i) (hz : i.zero = some z)
    (hsz : i.size = sz) (hown : w.ownsRow 0 e sz sv n xs) (hl : news.length = m * sz) (hnews : ∀ j u, news[j]? = some u → w.cell? (ad.add j) = some u) (h1 : ∀ u ∈ news, u.oneCell' = true) (h63 : n + m ≤ maxLen) (hb : (n + m) * i.bytes ≤ 140737488355328)
    (hr : (Builtin.append_ #[t, t] ty' #[sv, .slice (some ad) m c]).run P w = .ok v' w') : w.drawn ≤ w'.drawn ∧ ∀ g, v'.ownBlock = some g → sv.ownBlock = some g ∨ w.heap.size ≤ g := by
  subst hsz
  have hsmall : n + m ≤ 9223372036854775807 := by simp only [maxLen] at h63; omega
  rcases hown.2 with ⟨rfl, rfl⟩ | ⟨b, cap, cur, rfl, _, hgg, hnc, _, hcs, htake⟩
  · by_cases hm : m = 0
    · subst hm
      have hn : news = [] := List.eq_nil_of_length_eq_zero (by simpa using hl)
      subst hn
      have : (Builtin.append_ #[t, t] ty' #[.slice none 0 0, .slice (some ad) 0 c]).run P w = .ok (.slice none 0 0) w := by
        simp [Builtin.append_, run_underlying ht, sizeOf, typeInfo, hi, Builtin.lenOf, Builtin.firstCells, loadCells, loadCellsFrom]
      rw [this] at hr
      cases hr
      exact ⟨Nat.le_refl _, fun g hg => by simp [Value.ownBlock] at hg⟩
    · have := run_append_nil (P := P) w t ty' e i z ht hi hz ad m c news hl hnews (by omega) (by omega) (by simp only [Nat.zero_add] at hb; omega)
      rw [this] at hr
      cases hr
      refine ⟨by simp, fun g hg => ?_⟩
      simp only [Value.ownBlock, Option.some.injEq] at hg
      exact .inr (by omega)
  · by_cases hroom : n + m ≤ cap
    · have hfit : n * i.size + news.length ≤ cur.size := by rw [hl, hcs, ← Nat.add_mul]; exact Nat.mul_le_mul_right _ hroom
      have := run_append_room (P := P) w t ty' e i ht hi b n cap cur hgg ad m c news hl hnews h1 hroom hfit
      rw [this] at hr
      cases hr
      exact ⟨by simp, fun g hg => .inl hg⟩
    · have bd_ : ∀ j u, xs[j]? = some u → w.cell? ((⟨b, 0, none⟩ : Addr).add j) = some u := hown.cells (g := b) rfl
      have := run_append_grow (P := P) w t ty' e i z ht hi hz ⟨b, 0, none⟩ n cap xs hown.1 bd_ ad m c news hl hnews (by omega) (by omega) (growslice_fits (by omega) hb)
      rw [this] at hr
      cases hr
      refine ⟨by simp, fun g hg => ?_⟩
      simp only [Value.ownBlock, Option.some.injEq] at hg
      exact .inr (by omega)
structure Elt (P : Program) (t e : TypeId) (sz by' : Nat) : Prop where
  und : P.underlying t = some (.slice e)
  info : ∃ i z, P.info? e = some i ∧ i.zero = some z ∧ i.size = sz ∧ i.bytes = by' ∧ z.cells.size = sz
  pos : 0 < sz
theorem bi_ {x y : Operand} {t e : TypeId} {sz by' n m c : Nat} {sv : Value} {xs news : List Value} {Hr F : Hp} {ad : Addr} (he : Elt P t e sz by') (hrow : aQ_ e sz sv n xs Hr)
    (hx : Fr.ev fr x = some sv) (hy : Fr.ev fr y = some (.slice (some ad) m c)) (hH : H.Perm (Hr ++ F)) (hl : news.length = m * sz) (hnews : ∀ v, v.sat H → bd_ Γ v → ∀ j u, news[j]? = some u → v.w.cell? (ad.add j) = some u) (h1c : ∀ u ∈ news, u.oneCell' = true)
    (h63 : n + m ≤ maxLen) (hb : (n + m) * by' ≤ 140737488355328) (hN : Nat.blt d N = true)
    (hk : ∀ sv' Hr', aQ_ e sz sv' (n + m) (xs ++ news) Hr' → Ops P R N v0 H0 ops l K ((d, sv') :: fr) (Hr' ++ F) Γ) :
    Ops P R N v0 H0 ops (⟨some d, .call ⟨.builtin .append, #[x, y], #[t, t]⟩, ty, ps, af, none⟩ :: l) K fr H Γ :=
  cZ_ rfl fun a v h1 h2 h3 h4 => by
    obtain ⟨i, z, hi, hz, es, eb, ez⟩ := he.info
    have g := h2.perm hH
    have hn := hnews v h2 h4
    have ho := hrow.owns g
    obtain ⟨v', w', hr, q1, q2, _⟩ := run_append_own (P := P) v.w 0 t ty e i z sz by' he.und hi hz es eb ez he.pos sv n xs ho ad m c news hl hn h1c h63 hb (Nat.zero_le _)
    obtain ⟨a1, a2⟩ := kO_ v.w he.und hi hz es ho hl hn h1c h63 (by rw [eb]; exact hb) hr
    obtain ⟨Hr', k1, k2, k3⟩ := hV_ hrow g q1 q2 a1 a2
    unfold Oper.wp execOp
    simp only [resolve, invoke, builtin, Sem.run_bind, Sem.run_pure, Result.andThen_ok, List.map_toArray, List.map_cons, List.map_nil, h1.ev hx, h1.ev hy, hr]
    exact hk v' Hr' k1 _ ⟨v.im, w', v.sl⟩ (h1.put hN) k2 (h3.trans (k3.permL hH.symm)) (ck_ ((k3.permL hH.symm).le h2) h4)
theorem jK_ {t : TypeId} {parts : Array (Nat × Operand)} {u : Value} (hb : ∀ a : Act, Fr.sat N fr a → ∀ w, (Instr.build t (parts.map fun (i, x) => (i, a.eval x))).run P w = .ok u w) :
    Yld P N fr H Γ (.build t parts) ty (u) :=
  fun a v h1 h2 h4 _ _ _ => by
    have := hb a h1 v.w
    simp only [execOp, Sem.run_bind, this, Result.andThen_ok, Sem.run_pure]
def Fr.evp (fr : Fr) : List (Nat × Operand) → Option (List (Nat × Value))
  | [] => some []
  | (i, x) :: r => match Fr.ev fr x with
    | some v => match Fr.evp fr r with
      | some vs => some ((i, v) :: vs)
      | none => none
    | none => none
theorem Fr.sat.evp {a : Act} (h : Fr.sat N fr a) : ∀ {xs : List (Nat × Operand)} {vs : List (Nat × Value)}, Fr.evp fr xs = some vs → xs.map (fun (i, x) => (i, a.eval x)) = vs
  | [], vs, e => by simp only [Fr.evp, Option.some.injEq] at e; subst e; rfl
  | (i, x) :: r, vs, e => by
    simp only [Fr.evp] at e
    split at e
    · rename_i u hu
      split at e
      · rename_i us hus
        simp only [Option.some.injEq] at e; subst e
        show (i, a.eval x) :: _ = _
        rw [h.ev hu]
        exact congrArg _ (h.evp hus)
      · cases e
    · cases e
def hR_ : List Value → Nat → List Value → List Value
  | cs, 0, [] => cs
  | _ :: cs, 0, v :: vs => v :: hR_ cs 0 vs
  | c :: cs, n + 1, vs => c :: hR_ cs n vs
  | [], _, _ => []
theorem lJ_ : ∀ (cs : List Value) (n : Nat), hR_ cs n [] = cs
  | [], 0 => rfl
  | [], n + 1 => rfl
  | c :: cs, 0 => rfl
  | c :: cs, n + 1 => by simp only [hR_]; rw [lJ_ cs n]
theorem ke_ : ∀ (cs : List Value) (n : Nat) (v : Value) (vs : List Value), hR_ cs n (v :: vs) = hR_ (cs.set n v) (n + 1) vs
  | [], 0, v, vs => by simp [hR_]
  | [], n + 1, v, vs => by simp [hR_]
  | c :: cs, 0, v, vs => by simp [hR_]
  | c :: cs, n + 1, v, vs => by simp only [hR_, List.set_cons_succ]; rw [ke_ cs n v vs]
theorem kj_ (off : Nat) : ∀ (vs : List Value) (k : Nat) (cs : List Value),
    (vs.zipIdx k).foldl (fun (cs : Array Value) (p : Value × Nat) => cs.setIfInBounds (off + p.2) p.1) cs.toArray = (hR_ cs (off + k) vs).toArray
  | [], k, cs => by simp [lJ_]
  | v :: vs, k, cs => by
    simp only [List.zipIdx_cons, List.foldl_cons]
    rw [ke_, show cs.toArray.setIfInBounds (off + k) v = (cs.set (off + k) v).toArray by simp, kj_ off vs (k + 1)]
    rfl
def jp_ (place : Nat → Option (Nat × Nat)) : List Value → List (Nat × Value) → Option (List Value)
  | cells, [] => some cells
  | cells, (i, v) :: rest => match place i with
    | none => none
    | some (off, size) => bif Nat.beq v.cells.toList.length size && Nat.ble (off + size) cells.length then jp_ place (hR_ cells off v.cells.toList) rest else none
theorem hE_ (place : Nat → Option (Nat × Nat)) : ∀ (vs : List (Nat × Value)) (cells cs : List Value), jp_ place cells vs = some cs → Instr.fill place cells.toArray vs = some cs.toArray
  | [], cells, cs, h => by simp only [jp_, Option.some.injEq] at h; subst h; rfl
  | (i, v) :: rest, cells, cs, h => by
    simp only [jp_] at h
    cases hp : place i with
    | none => rw [hp] at h; cases h
    | some q =>
      obtain ⟨off, size⟩ := q
      rw [hp] at h
      simp only at h
      cases hb : (Nat.beq v.cells.toList.length size && Nat.ble (off + size) cells.length) with
      | false => rw [hb] at h; cases h
      | true =>
        rw [hb, cond_true] at h
        simp only [Bool.and_eq_true] at hb
        have e1 : v.cells.size = size := by simpa using Nat.eq_of_beq_eq_true hb.1
        have e2 : off + size ≤ cells.length := Nat.le_of_ble_eq_true hb.2
        have ih := hE_ place rest _ _ h
        have hz := kj_ off v.cells.toList 0 cells
        simp only [Nat.add_zero] at hz
        have hz' : v.cells.zipIdx.foldl (fun (cs : Array Value) (p : Value × Nat) => cs.setIfInBounds (off + p.2) p.1) cells.toArray = (hR_ cells off v.cells.toList).toArray := by
          rw [← hz, ← Array.foldl_toList]
          simp [Array.toList_zipIdx]
        simp only [Instr.fill, hp]
        rw [if_neg (by simp [e1]; omega)]
        exact hz' ▸ ih
def kR_ (P : Program) (t : TypeId) (pl : List (Nat × Nat)) (z : List Value) : Prop :=
  ∃ fs : Array Field, (∀ w, (zeroValue t).run P w = .ok (.agg z.toArray) w) ∧ (∀ w, (underlying t).run P w = .ok (.struct fs) w) ∧ (∀ w, (fs.mapM (fun (f : Field) => (do pure (f.offset, ← sizeOf f.type) : Sem (Nat × Nat)))).run P w = .ok pl.toArray w)
theorem ap_ {t : TypeId} {parts : List (Nat × Operand)} {vs : List (Nat × Value)} {pl : List (Nat × Nat)} {z cs : List Value} (hs : kR_ P t pl z) (hx : Fr.evp fr parts = some vs) (hf : jp_ (fun i => pl[i]?) z vs = some cs) :
    Yld P N fr H Γ (.build t parts.toArray) ty (.agg cs.toArray) :=
  jK_ (fun a h1 w => by
    obtain ⟨fs, e1, e2, e3⟩ := hs
    have := h1.evp hx
    rw [List.map_toArray, this]
    have hf' := hE_ _ _ _ _ hf
    have hg : Instr.fill (fun i => pl.toArray[i]?) z.toArray vs = some cs.toArray := by simpa using hf'
    simp only [Instr.build, Sem.run_bind, e1, Result.andThen_ok, e2, e3, Value.cells, hg, Sem.run_pure])
def kV_ (z : List Value) : Nat → List Value
  | 0 => []
  | n + 1 => z ++ kV_ z n
theorem kU_ (z : List Value) (hz : 0 < z.length) : ∀ (n i : Nat), i < n * z.length → (kV_ z n)[i]? = z[i % z.length]?
  | 0, i, h => by simp at h
  | n + 1, i, h => by
    simp only [kV_]
    by_cases hi : i < z.length
    · rw [List.getElem?_append_left hi, Nat.mod_eq_of_lt hi]
    · rw [List.getElem?_append_right (by omega), kU_ z hz n (i - z.length) (by rw [Nat.add_mul] at h; omega)]
      rw [← Nat.mod_eq_sub_mod (by omega)]
theorem kT_ (z : List Value) : ∀ n, (kV_ z n).length = n * z.length
  | 0 => by simp [kV_]
  | n + 1 => by simp only [kV_, List.length_append, kT_ z n, Nat.add_mul]; omega
theorem mi_ (z : List Value) (hz : 0 < z.length) (n : Nat) : (Array.range (n * z.length)).map (fun i => z.toArray[i % z.toArray.size]!) = (kV_ z n).toArray := by
  apply Array.ext'
  apply List.ext_getElem?
  intro i
  simp only [Array.toList_map, Array.toList_range, List.getElem?_map]
  by_cases hi : i < n * z.length
  · rw [kU_ z hz n i hi, List.getElem?_range hi]
    have hm : i % z.length < z.length := Nat.mod_lt _ hz
    simp [hm]
  · rw [List.getElem?_eq_none (by simpa using hi), List.getElem?_eq_none (by rw [kT_]; omega)]
    rfl
theorem aJ_ {t e : TypeId} {len sz : Nat} {parts : List (Nat × Operand)} {vs : List (Nat × Value)} {zv : Value} {cs : List Value} (hu : ∀ w, (underlying t).run P w = .ok (.slice e) w) (hs : ∀ w, (sizeOf e).run P w = .ok sz w) (hz : ∀ w, (zeroValue e).run P w = .ok zv w)
    (hzl : zv.cells.toList.length = sz) (hp : Nat.blt 0 (len * sz) = true) (hle : Nat.ble (len * sz) 16777216 = true) (hx : Fr.evp fr parts = some vs) (hf : jp_ (fun i => some (i * sz, sz)) (kV_ zv.cells.toList len) vs = some cs) (hN : Nat.blt d N = true)
    (hk : ∀ b, Ops P R N v0 H0 ops l K ((d, .slice (some ⟨b, 0, none⟩) len len) :: fr) ((b, .cells cs.toArray e (0, 0)) :: H) Γ) : Ops P R N v0 H0 ops (⟨some d, .buildSlice t len parts.toArray, ty, ps, af, none⟩ :: l) K fr H Γ :=
  fY_ (x := fun b => .slice (some ⟨b, 0, none⟩) len len) hN (fun a v h1 h2 h4 => by
    have hx' := h1.evp hx
    have hf' := hE_ _ _ _ _ hf
    have hpos : 0 < len * sz := by simpa [Nat.blt_eq] using hp
    have hszp : 0 < sz := Nat.pos_of_mul_pos_left hpos
    have hle' : len * sz ≤ 16777216 := Nat.le_of_ble_eq_true hle
    have hr := mi_ zv.cells.toList (by omega) len
    rw [hzl] at hr
    simp only [Array.toArray_toList] at hr
    rw [← hr] at hf'
    simp only [execOp, Instr.buildSlice, Sem.run_bind, hu, Result.andThen_ok, hs, List.map_toArray, hx']
    rw [if_neg (by omega), if_neg (by omega)]
    simp only [Sem.run_bind, Sem.run_pure, hz, Result.andThen_ok, hf']
    rfl) hk
end ops
end Go.Sx
namespace Go.Sx
open Go
section ops
variable {P : Program} {N : Nat} {v0 : Vw} {H0 : Hp} {R : Exit → Act → World → Prop} {K : List Kt} {fr : Fr} {H : Hp} {Γ : List Fct}
variable {ops : Array Oper} {l : List Oper} {d : Nat} {ty : TypeId} {ps : String} {af : Array Edge}
theorem lv_ (h : Array Obj) (o : Obj) (f : Obj → Obj) : (h.push o).modify h.size f = h.push (f o) := by
  apply Array.ext_getElem?
  intro i
  rw [Array.getElem?_modify]
  by_cases e : h.size = i
  · subst e; simp
  · rw [if_neg e, Array.getElem?_push, Array.getElem?_push, if_neg (fun h => e h.symm), if_neg (fun h => e h.symm)]
def bytesV (m : List UInt8) : List Value := m.map fun c => .int .u8 (c.toNat : Int)
theorem qd_ {x : Operand} {s t e : TypeId} {m : List UInt8} (hs : ∀ w, (underlying s).run P w = .ok .string w) (ht : ∀ w, (underlying t).run P w = .ok (.slice e) w) (he : ∀ w, (underlying e).run P w = .ok (.int .u8) w)
    (hx : Fr.ev fr x = some (str m)) (hN : Nat.blt d N = true)
    (hk : ∀ cap b, m.length ≤ cap → Ops P R N v0 H0 ops l K ((d, .slice (some ⟨b, 0, none⟩) m.length cap) :: fr) ((b, .cells (bytesV m ++ List.replicate (cap - m.length) (Value.int .u8 0)).toArray e (cap, cap + 1)) :: H) Γ) :
    Ops P R N v0 H0 ops (⟨some d, .convert s t x, ty, ps, af, none⟩ :: l) K fr H Γ :=
  iS_ (β := Nat) (x := fun cap b => .slice (some ⟨b, 0, none⟩) m.length cap) (o := fun cap => .cells (bytesV m ++ List.replicate (cap - m.length) (Value.int .u8 0)).toArray e (cap, cap + 1)) (fun cap => m.length ≤ cap) hN
    (fun a v h1 h2 h4 => by
      have hge : m.length ≤ (Question.appendCap m.length 0 e).cut (v.w.tape v.w.drawn (.appendCap m.length 0 e)) := by simp [Question.cut]
      generalize hc : (Question.appendCap m.length 0 e).cut (v.w.tape v.w.drawn (.appendCap m.length 0 e)) = cap at hge
      have hsz : (bytesV m ++ List.replicate (cap - m.length) (Value.int .u8 0)).length = cap := by simp [bytesV]; omega
      have e1 : (⟨m.toArray⟩ : ByteArray).size = m.length := by simp [ByteArray.size]
      have e2 : (Array.map (fun (b : UInt8) => Value.int .u8 (b.toNat : Int)) m.toArray ++ Array.replicate (cap - m.length) (Value.int .u8 0)) = (bytesV m ++ List.replicate (cap - m.length) (Value.int .u8 0)).toArray := by simp [bytesV]
      refine ⟨cap, { v.w with heap := v.w.heap.push (.cells (bytesV m ++ List.replicate (cap - m.length) (Value.int .u8 0)).toArray e (cap, cap + 1)), drawn := v.w.drawn + 1 }, hge, ?_, rfl, rfl, rfl, rfl, Nat.le_succ _⟩
      have hst : (Conv.stringToBytes e ⟨m.toArray⟩).run P v.w = .ok (.slice (some ⟨v.w.heap.size, 0, none⟩) m.length cap) { v.w with heap := v.w.heap.push (.cells (bytesV m ++ List.replicate (cap - m.length) (Value.int .u8 0)).toArray e (cap, cap + 1)), drawn := v.w.drawn + 1 } := by
        generalize bytesV m ++ List.replicate (cap - m.length) (Value.int .u8 0) = cs at hsz e2 ⊢
        simp only [Conv.stringToBytes, e1]
        show Sem.run P (choose _ >>= _) v.w = _
        rw [Sem.run_bind]
        have hch : (choose (.appendCap m.length 0 e)).run P v.w = .ok cap { v.w with drawn := v.w.drawn + 1 } := by
          simp [choose, Sem.run, Question.forced, hc]
        rw [hch, Result.andThen_ok, e2]
        simp only [newRow, Sem.run_bind, newObj, markStringish, shape, freeze]
        simp only [Sem.run, Result.andThen_ok, World.shape?, Array.getElem?_push_size, List.size_toArray, hsz, World.freeze, Nat.one_ne_zero, if_false, Sem.run_pure]
        rw [lv_]
        simp
      simp only [execOp, Sem.run_bind, convert, hs, ht, he, Result.andThen_ok, h1.ev hx, str, hst, Sem.run_pure])
    (fun cap b hq => hk cap b hq)
theorem du_ {t : TypeId} {x : Operand} {lo hi : Option Operand} {m : List UInt8} {i j : Nat} {kl kh : IntKind} (hu : ∀ w, (underlying t).run P w = .ok .string w) (hx : Fr.ev fr x = some (str m))
    (hlo : match lo with | some y => Fr.ev fr y = some (.int kl (i : Int)) | none => i = 0) (hhi : match hi with | some y => Fr.ev fr y = some (.int kh (j : Int)) | none => j = m.length) (hij : i ≤ j) (hj : j ≤ m.length) :
    Yld P N fr H Γ (.slice t x lo hi none) ty (str ((m.drop i).take (j - i))) :=
  fun a v h1 h2 h4 _ _ _ => by
    have e1 : (⟨m.toArray⟩ : ByteArray).size = m.length := by simp [ByteArray.size]
    have e2 := ByteArray.extract_mk m i j
    cases lo <;> cases hi <;> simp only at hlo hhi
    · subst hlo hhi; simp [execOp, Instr.sliceAt, Instr.slice, hu, h1.ev hx, str, Instr.sliceBounds, e1, e2]
    · subst hlo; simp [execOp, Instr.sliceAt, Instr.slice, hu, h1.ev hx, h1.ev hhi, str, Instr.sliceBounds, Instr.sliceBound, asIntOf, e1, e2, hj]
    · subst hhi; simp [execOp, Instr.sliceAt, Instr.slice, hu, h1.ev hx, h1.ev hlo, str, Instr.sliceBounds, Instr.sliceBound, asIntOf, e1, e2, hij]
    · simp [execOp, Instr.sliceAt, Instr.slice, hu, h1.ev hx, h1.ev hlo, h1.ev hhi, str, Instr.sliceBounds, Instr.sliceBound, asIntOf, e1, e2, hij, hj]
def sad (ad : Option Addr) (cap i n : Nat) : Option Addr := if cap = i then ad else ad.map (·.add (i * n))
theorem cj_ {t e : TypeId} {x : Operand} {lo hi : Option Operand} {ad : Option Addr} {len cap i j n : Nat} {kl kh : IntKind} (hu : ∀ w, (underlying t).run P w = .ok (.slice e) w) (hs : ∀ w, (sizeOf e).run P w = .ok n w) (hx : Fr.ev fr x = some (.slice ad len cap))
    (hlo : match lo with | some y => Fr.ev fr y = some (.int kl (i : Int)) | none => i = 0) (hhi : match hi with | some y => Fr.ev fr y = some (.int kh (j : Int)) | none => j = len) (hij : i ≤ j) (hj : j ≤ cap) :
    Yld P N fr H Γ (.slice t x lo hi none) ty (.slice (sad ad cap i n) (j - i) (cap - i)) :=
  fun a v h1 h2 h4 _ _ _ => by
    cases lo <;> cases hi <;> simp only at hlo hhi
    · subst hlo hhi; simp [execOp, Instr.sliceAt, Instr.slice, hu, hs, h1.ev hx, Instr.sliceBounds, sad]
    · subst hlo; simp [execOp, Instr.sliceAt, Instr.slice, hu, hs, h1.ev hx, h1.ev hhi, Instr.sliceBounds, Instr.sliceBound, asIntOf, hj, sad]
    · subst hhi; simp [execOp, Instr.sliceAt, Instr.slice, hu, hs, h1.ev hx, h1.ev hlo, Instr.sliceBounds, Instr.sliceBound, asIntOf, hij, sad]
    · simp [execOp, Instr.sliceAt, Instr.slice, hu, hs, h1.ev hx, h1.ev hlo, h1.ev hhi, Instr.sliceBounds, Instr.sliceBound, asIntOf, hij, hj, sad]
theorem bv_.sad {v : Vw} {ad : Option Addr} {cs : List Value} {cap i n : Nat} (h : bv_ v ad cs) (ds : List Value) (hs : ∀ j x, ds[j]? = some x → cs[i * n + j]? = some x) (hc : cs.length ≤ cap * n) : bv_ v (sad ad cap i n) ds := by
  unfold Sx.sad
  split
  · rename_i hci
    subst hci
    left
    cases ds with
    | nil => rfl
    | cons d ds =>
      have := hs 0 d rfl
      rw [List.getElem?_eq_none (by omega)] at this
      cases this
  · exact h.drop (i * n) ds hs
theorem cR_ {fn : Fn} {xs ys : List Operand} {us vs : List Value} (hx : Fr.evs fr xs = some us) (hy : Fr.evs fr ys = some vs) : Yld P N fr H Γ (.makeFunc fn xs.toArray ys.toArray) ty (.func fn us.toArray vs.toArray) :=
  fun a v h1 h2 h4 _ _ _ => by
    have e1 := h1.evs hx
    have e2 := h1.evs hy
    simp [execOp, Instr.makeFunc, e1, e2]
theorem bh_ {f : FuncId} {g : Operand} {first cap : List Value} {xs : List Operand} {ats : Array TypeId} {vs : List Value} {ι : Type} {Hc F : Hp} {Γc : List Fct} {ret : ι → Value} {H' : ι → Hp} {Γ' : ι → List Fct}
    (hT : Tri P f (first ++ vs ++ cap).toArray Hc Γc ret H' Γ') (hg : Fr.ev fr g = some (.func (.func f) first.toArray cap.toArray)) (hx : Fr.evs fr xs = some vs) (hH : H.Perm (Hc ++ F)) (hΓ : ∀ v, v.sat H → bd_ Γ v → bd_ Γc v) (hN : Nat.blt d N = true)
    (hk : ∀ x, Ops P R N v0 H0 ops l K ((d, ret x) :: fr) (H' x ++ F) (Γ' x ++ Γ)) :
    Ops P R N v0 H0 ops (⟨some d, .call ⟨.value g, xs.toArray, ats⟩, ty, ps, af, none⟩ :: l) K fr H Γ :=
  kc_ hT (fun a w h1 => by
    have e1 := h1.evs hx
    have hc := hT.callable (first ++ vs ++ cap).toArray w
    simp only [execOp, resolve, Deferred.ofValue, h1.ev hg, invoke, List.map_toArray, e1, Sem.run_bind, Sem.run_pure, Result.andThen_ok, List.append_toArray, hc]) hH hΓ hN hk
end ops
end Go.Sx
namespace Go.Sx
open Go
class NoPan (R : Exit → Act → World → Prop) : Prop where
  no : ∀ c a w, ¬ R (.panic c) a w
instance {P : Program} {fn : Func} {ι : Type} {v0 : Vw} {H0 : Hp} {ret : ι → Value} {H' : ι → Hp} {Γ' : ι → List Fct} : NoPan (bodyPost P fn (mG_ v0 H0 ret H' Γ')) :=
  ⟨fun c a w h => by obtain ⟨_, x, v', e, _⟩ := h; cases e⟩
theorem hr_ {P : Program} {R : Exit → Act → World → Prop} [hR : NoPan R] : ∀ (K : List Kt) (c : List PanicEntry) (a : Act) (w : World), ¬ post P R K (.panic c) a w
  | [], c, a, w => hR.no c a w
  | .seq _ :: K, c, a, w => hr_ K c a w
  | .inv _ :: K, c, a, w => hr_ K c a w
  | .blk _ :: K, c, a, w => hr_ K c a w
def SW (Hs : Hp) (Γs : List Fct) (w : World) : Prop := ∃ v : Vw, v.w = w ∧ v.sat Hs ∧ bd_ Γs v
section any
variable {P : Program} {N : Nat} {v0 : Vw} {H0 : Hp} {R : Exit → Act → World → Prop} {K : List Kt} {fr : Fr} {H Hs : Hp} {Γ Γs : List Fct}
variable {ops : Array Oper} {d : Nat} {ty : TypeId} {ps : String} {af : Array Edge} {fuel : Nat} {listed : Array Bool}
abbrev Any (P : Program) (R : Exit → Act → World → Prop) (N : Nat) (v0 : Vw) (H0 : Hp) (ops : Array Oper) (Hs : Hp) (Γs : List Fct) (fuel : Nat) (listed : Array Bool) (K : List Kt) (fr : Fr) (H : Hp) (Γ : List Fct) : Prop :=
  Ok N v0 H0 (wpAnyH P .any ops (post P R K) (SW Hs Γs) fuel listed) fr H Γ
theorem lj_ {id : Nat} (Hs : Hp) (Γs : List Fct) (hm : P.follows .mixedOrders = true) (h : Any P R N v0 H0 ops Hs Γs ops.size (Array.replicate ops.size false) K fr H Γ) : Run P R N v0 H0 (.region id ops true) K fr H Γ :=
  fun a v h1 h2 h3 h4 => wp_region_held hm (by
    have hle : v.le ⟨v.im, { v.w with drawn := v.w.drawn + 1 }, v.sl⟩ := ⟨fun _ h => h, fun _ _ => rfl, rfl⟩
    exact h a ⟨v.im, { v.w with drawn := v.w.drawn + 1 }, v.sl⟩ h1 ⟨h2.own, h2.nodup, h2.lt⟩ ⟨h3.os, h3.tape, h3.output, h3.size, h3.block, h3.imUp, h3.imNew, h3.hNew, h3.sl, h3.dr.imp (fun h => h) fun h => Nat.le_succ_of_le h⟩ (ck_ hle h4))
theorem aS_ {id : Nat} (hm : P.follows .mixedOrders = true) (h : Any P R N v0 H0 ops H Γ ops.size (Array.replicate ops.size false) K fr H Γ) : Run P R N v0 H0 (.region id ops true) K fr H Γ := lj_ H Γ hm h
theorem Vw.sat.tail {v : Vw} {p : Nat × Obj} (h : v.sat (p :: H)) : v.sat H :=
  ⟨fun x hx => h.own x (List.mem_cons_of_mem _ hx), by have := h.nodup; rw [List.map_cons, List.nodup_cons] at this; exact this.2, h.lt⟩
theorem kP_ [NoPan R] (i : Nat) {oi : Oper} {x : Value} (hi : ops[i]? = some oi) (hn : Region.noSelect ops = true) (hf : Region.free .any ops listed i = true) (hr : (Region.ready .any ops listed).contains i = true)
    (hd : oi.dst = some d) (hN : Nat.blt d N = true) (hy : ∀ a, Fr.sat N fr a → YieldsIf P ops (SW Hs Γs) oi x a) (hs : ∀ v, v.sat H → bd_ Γ v → v.sat Hs ∧ bd_ Γs v)
    (h : Any P R N v0 H0 ops Hs Γs fuel (listed.setIfInBounds i true) K ((d, x) :: fr) H Γ) : Any P R N v0 H0 ops Hs Γs (fuel + 1) listed K fr H Γ :=
  fun a v h1 h2 h3 h4 => wpAnyH_take hi hn hf hr (fun c a w hq => absurd hq (hr_ K c _ w)) (hy a h1) ⟨v, rfl, hs v h2 h4⟩ (by
    rw [hd]
    exact h _ v (h1.put hN) h2 h3 h4)
theorem py_ [NoPan R] (i : Nat) {op : Op} {x : Value} (hi : ops[i]? = some ⟨some d, op, ty, ps, af, none⟩) (hn : Region.noSelect ops = true) (hf : Region.free .any ops listed i = true) (hr : (Region.ready .any ops listed).contains i = true)
    (he : Yld P N fr Hs Γs op ty x) (hN : Nat.blt d N = true) (hs : ∀ v, v.sat H → bd_ Γ v → v.sat Hs ∧ bd_ Γs v)
    (h : Any P R N v0 H0 ops Hs Γs fuel (listed.setIfInBounds i true) K ((d, x) :: fr) H Γ) : Any P R N v0 H0 ops Hs Γs (fuel + 1) listed K fr H Γ :=
  kP_ i hi hn hf hr rfl hN (fun a h1 => .inl ⟨rfl, fun w ⟨v, e, k1, k2⟩ => by subst e; exact he a v h1 k1 k2 (some d) ps af⟩) hs h
theorem oa_ [NoPan R] (i : Nat) {op : Op} {x : Value} {j t : Nat} {want : Bool} (hi : ops[i]? = some ⟨some d, op, ty, ps, af, some (j, want)⟩) (hn : Region.noSelect ops = true) (hf : Region.free .any ops listed i = true) (hr : (Region.ready .any ops listed).contains i = true)
    (hj : hz_ ops j = some t) (hx : Fr.get fr t = some (.bool want)) (he : Yld P N fr Hs Γs op ty x) (hN : Nat.blt d N = true) (hs : ∀ v, v.sat H → bd_ Γ v → v.sat Hs ∧ bd_ Γs v)
    (h : Any P R N v0 H0 ops Hs Γs fuel (listed.setIfInBounds i true) K ((d, x) :: fr) H Γ) : Any P R N v0 H0 ops Hs Γs (fuel + 1) listed K fr H Γ :=
  kP_ i hi hn hf hr rfl hN (fun a h1 => .inl ⟨by simp [Region.wanted, fN_ h1 hj hx], fun w ⟨v, e, k1, k2⟩ => by subst e; exact he a v h1 k1 k2 (some d) ps af⟩) hs h
theorem any_no [NoPan R] (i : Nat) {op : Op} {x : Value} {j t : Nat} {want : Bool} (hi : ops[i]? = some ⟨some d, op, ty, ps, af, some (j, want)⟩) (hn : Region.noSelect ops = true) (hf : Region.free .any ops listed i = true) (hr : (Region.ready .any ops listed).contains i = true)
    (hj : hz_ ops j = some t) (hx : Fr.get fr t = some x) (hne : (match x with | .bool b => Bool.xor b want | _ => true) = true) (hN : Nat.blt d N = true) (hs : ∀ v, v.sat H → bd_ Γ v → v.sat Hs ∧ bd_ Γs v)
    (h : Any P R N v0 H0 ops Hs Γs fuel (listed.setIfInBounds i true) K ((d, undef) :: fr) H Γ) : Any P R N v0 H0 ops Hs Γs (fuel + 1) listed K fr H Γ :=
  kP_ i hi hn hf hr rfl hN (fun a h1 => .inr ⟨by
    simp only [Region.wanted, fN_ h1 hj hx]
    cases x <;> first | rfl | (rename_i b; cases b <;> cases want <;> simp_all), rfl⟩) hs h
def gD_ (ops : Array Oper) : Array Bool → List Nat → Bool
  | _, [] => true
  | listed, i :: is => Region.free .any ops listed i && ((Region.ready .any ops listed).contains i && gD_ ops (listed.setIfInBounds i true) is)
def Sq (P : Program) (R : Exit → Act → World → Prop) (N : Nat) (v0 : Vw) (H0 : Hp) (ops : Array Oper) (Hs : Hp) (Γs : List Fct) (is : List Nat) (fuel : Nat) (listed : Array Bool) (K : List Kt) (fr : Fr) (H : Hp) (Γ : List Fct) : Prop :=
  (Region.noSelect ops && gD_ ops listed is) = true → (∀ v, v.sat H → bd_ Γ v → v.sat Hs ∧ bd_ Γs v) → Any P R N v0 H0 ops Hs Γs (fuel + is.length) listed K fr H Γ
theorem ah_ (fuel : Nat) (is : List Nat) (hq : (Region.noSelect ops && gD_ ops listed is) = true) (hs : ∀ v, v.sat H → bd_ Γ v → v.sat Hs ∧ bd_ Γs v) (h : Sq P R N v0 H0 ops Hs Γs is fuel listed K fr H Γ) : Any P R N v0 H0 ops Hs Γs (fuel + is.length) listed K fr H Γ := h hq hs
theorem ag_ (h : Any P R N v0 H0 ops Hs Γs fuel listed K fr H Γ) : Sq P R N v0 H0 ops Hs Γs [] fuel listed K fr H Γ := fun _ _ => h
theorem iD_ {i : Nat} {is : List Nat} (h : (Region.noSelect ops && gD_ ops listed (i :: is)) = true) : Region.noSelect ops = true ∧ Region.free .any ops listed i = true ∧ (Region.ready .any ops listed).contains i = true ∧ (Region.noSelect ops && gD_ ops (listed.setIfInBounds i true) is) = true := by
  simp only [gD_, Bool.and_eq_true] at h ⊢
  exact ⟨h.1, h.2.1, h.2.2.1, h.1, h.2.2.2⟩
theorem n_ [NoPan R] {i : Nat} {is : List Nat} {op : Op} {x : Value} (hi : ops[i]? = some ⟨some d, op, ty, ps, af, none⟩) (he : Yld P N fr Hs Γs op ty x) (hN : Nat.blt d N = true)
    (h : Sq P R N v0 H0 ops Hs Γs is fuel (listed.setIfInBounds i true) K ((d, x) :: fr) H Γ) : Sq P R N v0 H0 ops Hs Γs (i :: is) fuel listed K fr H Γ := fun hq hs => by
  obtain ⟨q1, q2, q3, q4⟩ := iD_ hq
  exact py_ i hi q1 q2 q3 he hN hs (h q4 hs)
theorem cl_ [NoPan R] {i : Nat} {is : List Nat} {op : Op} {X : Bool} (hi : ops[i]? = some ⟨some d, op, ty, ps, af, none⟩) (he : Yld P N fr Hs Γs op ty (.bool X)) (hN : Nat.blt d N = true)
    (h : ∀ r : Bool, X = r → Sq P R N v0 H0 ops Hs Γs is fuel (listed.setIfInBounds i true) K ((d, .bool r) :: fr) H Γ) : Sq P R N v0 H0 ops Hs Γs (i :: is) fuel listed K fr H Γ := n_ hi he hN (h X rfl)
theorem aC_ [NoPan R] {i : Nat} {is : List Nat} {op : Op} {x : Value} {j t : Nat} {want : Bool} (hi : ops[i]? = some ⟨some d, op, ty, ps, af, some (j, want)⟩) (hj : hz_ ops j = some t) (hx : Fr.get fr t = some (.bool want)) (he : Yld P N fr Hs Γs op ty x) (hN : Nat.blt d N = true)
    (h : Sq P R N v0 H0 ops Hs Γs is fuel (listed.setIfInBounds i true) K ((d, x) :: fr) H Γ) : Sq P R N v0 H0 ops Hs Γs (i :: is) fuel listed K fr H Γ := fun hq hs => by
  obtain ⟨q1, q2, q3, q4⟩ := iD_ hq
  exact oa_ i hi q1 q2 q3 hj hx he hN hs (h q4 hs)
theorem dB_ [NoPan R] {i : Nat} {is : List Nat} {op : Op} {X : Bool} {j t : Nat} {want : Bool} (hi : ops[i]? = some ⟨some d, op, ty, ps, af, some (j, want)⟩) (hj : hz_ ops j = some t) (hx : Fr.get fr t = some (.bool want)) (he : Yld P N fr Hs Γs op ty (.bool X)) (hN : Nat.blt d N = true)
    (h : ∀ r : Bool, X = r → Sq P R N v0 H0 ops Hs Γs is fuel (listed.setIfInBounds i true) K ((d, .bool r) :: fr) H Γ) : Sq P R N v0 H0 ops Hs Γs (i :: is) fuel listed K fr H Γ := aC_ hi hj hx he hN (h X rfl)
theorem aE_ [NoPan R] {i : Nat} {is : List Nat} {op : Op} {x : Value} {j t : Nat} {want : Bool} (hi : ops[i]? = some ⟨some d, op, ty, ps, af, some (j, want)⟩) (hj : hz_ ops j = some t) (hx : Fr.get fr t = some x) (hne : (match x with | .bool b => Bool.xor b want | _ => true) = true) (hN : Nat.blt d N = true)
    (h : Sq P R N v0 H0 ops Hs Γs is fuel (listed.setIfInBounds i true) K ((d, undef) :: fr) H Γ) : Sq P R N v0 H0 ops Hs Γs (i :: is) fuel listed K fr H Γ := fun hq hs => by
  obtain ⟨q1, q2, q3, q4⟩ := iD_ hq
  exact any_no i hi q1 q2 q3 hj hx hne hN hs (h q4 hs)
def Nx (P : Program) (R : Exit → Act → World → Prop) (ops : Array Oper) (Hs : Hp) (Γs : List Fct) (fuel : Nat) (listed : Array Bool) (K : List Kt) (a : Act) (w : World) : Prop :=
  SW Hs Γs w ∧ wpAnyH P .any ops (post P R K) (SW Hs Γs) fuel listed a w
theorem X_ (i : Nat) {o : Oper} (hi : ops[i]? = some o) (hr : Region.ready .any ops listed = [i]) (h : Ops P R N v0 H0 ops [o] (.inv (Nx P R ops Hs Γs fuel (listed.setIfInBounds i true) K) :: K) fr H Γ) : Any P R N v0 H0 ops Hs Γs (fuel + 1) listed K fr H Γ := by
  intro a v h1 h2 h3 h4
  refine wpAnyH_all hr (by simp) fun j hj => ?_
  simp only [List.mem_singleton] at hj
  subst hj
  have := h a v h1 h2 h3 h4
  unfold wpOp
  simp only [hi]
  unfold wpList at this
  split
  · rename_i hw
    rw [if_pos hw] at this
    rcases this with q | q
    · left
      unfold Oper.wp at q ⊢
      generalize (execOp a.eval o).run P v.w = r at q ⊢
      cases r with
      | ok n w' =>
        cases n <;> simp only [Oper.upon] at q ⊢ <;> exact q
      | halt x w' =>
        cases x <;> simp only [Oper.upon] at q ⊢
        case panic u => exact q
    · exact .inr q
  · rename_i hw
    rw [if_neg hw] at this
    exact this
theorem N_ (hs : ∀ v, v.sat H → bd_ Γ v → v.sat Hs ∧ bd_ Γs v) (h : Any P R N v0 H0 ops Hs Γs fuel listed K fr H Γ) : Ok N v0 H0 (Nx P R ops Hs Γs fuel listed K) fr H Γ :=
  fun a v h1 h2 h3 h4 => ⟨⟨v, rfl, hs v h2 h4⟩, h a v h1 h2 h3 h4⟩
theorem ac_ (hr : Region.ready .any ops listed = []) (h : Fin P R N v0 H0 K fr H Γ) : Any P R N v0 H0 ops Hs Γs fuel listed K fr H Γ :=
  fun a v h1 h2 h3 h4 => wpAnyH_done hr (h a v h1 h2 h3 h4) fuel
theorem ba_ {α : Type} [BEq α] [LawfulBEq α] {a b : α} (h : (a != b) = true) : a ≠ b := by simpa using h
theorem bb_ {α : Type} [BEq α] [LawfulBEq α] {a b : α} (h : (a != b) = false) : a = b := by simpa using h
theorem pY_ {fn : Func} {t s u : Nat} {ι : Type} {F : Hp} {ret : ι → Value} {H' : ι → Hp} {Γ' : ι → List Fct} {u1 u2 u3 : Value} (hr : fn.results = #[.tmp t, .tmp s, .tmp u]) (x : ι) (h1x : Fr.get fr t = some u1) (h2x : Fr.get fr s = some u2) (h3x : Fr.get fr u = some u3) (hx : .tuple #[u1, u2, u3] = ret x) (hH : H.Perm (H' x ++ F))
    (hΓ : ∀ v, v.sat H → bd_ Γ v → bd_ (Γ' x) v) : Ok N v0 H0 (bodyPost P fn (mG_ v0 H0 ret H' Γ') .ret) fr H Γ :=
  fl_ hH hΓ fun a v h1 h2 h3 h4 => ⟨h1.defers, ret x, by rw [← hx]; have e1 := h1.val t _ h1x; have e2 := h1.val s _ h2x; have e3 := h1.val u _ h3x; simp [results, hr, e1, e2, e3], x, v, rfl, rfl, h2, h4, h3⟩
theorem gb_ {f : FuncId} {args : Array Value} {r : Value} (hc : fK_ P f) (h : ∀ w, Calls P f args w fun e w' => e = .returned r ∧ w'.heap = w.heap ∧ w'.os = w.os ∧ w'.tape = w.tape ∧ w'.output = w.output ∧ w.drawn ≤ w'.drawn) : Fn0 P f args r :=
  ⟨hc, fun v h1 _ => (h v.w).mono fun e w' ⟨he, e1, e2, e3, e4, ed⟩ => ⟨(), ⟨v.im, w', v.sl⟩, he, rfl, ⟨by simp, by simp, fun b hb => by show b < w'.heap.size; rw [e1]; exact h1.lt b hb⟩, trivial,
    ⟨e2, e3, e4, by simp [e1], fun b _ _ => by show w'.heap[b]? = _; rw [e1], fun _ h => h, fun _ h => .inl h, fun _ h => by simp at h, rfl, .inr ed⟩⟩⟩
theorem cv_ {f : FuncId} {g : Operand} {first cap : List Value} {l : List Oper} {xs : List Operand} {ats : Array TypeId} {vs : List Value} {Hc F : Hp} {Γc : List Fct} {X : Bool}
    (hT : Tri P f (first ++ vs ++ cap).toArray Hc Γc (fun _ : Unit => .bool X) (fun _ => Hc) (fun _ => [])) (hg : Fr.ev fr g = some (.func (.func f) first.toArray cap.toArray)) (hx : Fr.evs fr xs = some vs) (hH : H.Perm (Hc ++ F)) (hΓ : ∀ v, v.sat H → bd_ Γ v → bd_ Γc v) (hN : Nat.blt d N = true)
    (hk : ∀ r : Bool, X = r → Ops P R N v0 H0 ops l K ((d, .bool r) :: fr) (Hc ++ F) Γ) :
    Ops P R N v0 H0 ops (⟨some d, .call ⟨.value g, xs.toArray, ats⟩, ty, ps, af, none⟩ :: l) K fr H Γ :=
  bh_ hT hg hx hH hΓ hN fun _ => hk X rfl
theorem aj_ {k : Act → World → Prop} {H' : Hp} (hH : H.Perm H') (h : Ok N v0 H0 k fr H' Γ) : Ok N v0 H0 k fr H Γ :=
  fun a v h1 h2 h3 h4 => h a v h1 (h2.perm hH) (h3.subR fun b hb => (hH.map Prod.fst).mem_iff.2 hb) h4
end any
end Go.Sx
namespace Go.Sx
open Go
structure SatD (N : Nat) (D : List Deferred) (fr : Fr) (a : Act) : Prop where
  sat : Fr.sat N fr ⟨a.tmps, []⟩
  defers : a.defers = D
theorem SatD.put {N : Nat} {D : List Deferred} {fr : Fr} {a : Act} {d : Nat} {x : Value} (h : SatD N D fr a) (hd : Nat.blt d N = true) : SatD N D ((d, x) :: fr) (a.put (some d) x) :=
  ⟨h.sat.put hd, h.defers⟩
section code
variable {F : Fence} {n : Nat} {P : Program} {N : Nat} {D : List Deferred} {v0 : Vw} {H0 : Hp} {R : Exit → Act → World → Prop} {K : List Kt} {fr : Fr} {H : Hp} {Γ : List Fct}
variable {ops : Array Oper} {l : List Oper} {d : Nat} {ty : TypeId} {ps : String} {af : Array Edge}
end code
end Go.Sx
namespace Go.Vs
abbrev Str := List UInt8
def cW_ (c : UInt8) : Bool := (decide (97 ≤ c.toNat) && decide (c.toNat ≤ 122)) || (decide (65 ≤ c.toNat) && decide (c.toNat ≤ 90))
def dm_ (c : UInt8) : Bool := cW_ c || decide (c.toNat = 95) || (decide (48 ≤ c.toNat) && decide (c.toNat ≤ 57))
def gk_ (s : Str) : Bool := s.all dm_
def kws : List Str := [[97, 110, 100], [115, 111, 109, 101], [105, 110], [116, 111], [110, 111, 116, 104, 105, 110, 103], [101, 118, 101, 114, 121, 116, 104, 105, 110, 103], [111, 110, 101], [111, 102], [111, 112, 101, 110], [112, 114, 105, 118, 97, 116, 101], [115, 117, 98], [115, 97, 109, 101], [100, 105, 115, 106, 111, 105, 110, 116], [100, 111, 109, 97, 105, 110], [114, 111, 108, 101], [99, 104, 97, 105, 110], [114, 101, 102, 108, 101, 120, 105, 118, 101], [116, 121, 112, 101], [108, 105, 110, 107], [115, 101, 108, 101, 99, 116], [119, 104, 101, 114, 101], [111, 114]]
def aW_ (s : Str) : Bool := kws.contains s
def eJ_ (s : Str) : Bool := !(s == []) && cW_ (s.headD 0) && gk_ s && !aW_ s
def cg_ (s : Str) : Bool := decide (2 ≤ s.length) && decide (s.length ≤ 24) && decide ((s.headD 0).toNat = 95) && gk_ s
def ixS (c : UInt8) : Str → Option Nat
  | [] => none
  | b :: s => if b = c then some 0 else (ixS c s).map (· + 1)
def dl_ (s : Str) : Bool := decide (s.length ≤ 24) && match ixS 58 s with
  | none => eJ_ s
  | some k => eJ_ (s.take k) && eJ_ (s.drop (k + 1))
def bc_ (s : Str) : Bool := dl_ s || cg_ s
theorem iq_ (c : UInt8) : ∀ s : Str, Lib.indexByte s c = match ixS c s with | none => -1 | some k => (k : Int)
  | [] => rfl
  | b :: s => by
    have ih := iq_ c s
    simp only [Lib.indexByte, ixS]
    by_cases h : b = c
    · simp [h]
    · simp only [beq_iff_eq, h, if_false]
      cases hx : ixS c s with
      | none => rw [hx] at ih; simp [ih]
      | some k => rw [hx] at ih; simp only [ih]; rw [if_neg (by omega)]; simp
theorem ms_ {c : UInt8} : ∀ {s : Str} {k : Nat}, ixS c s = some k → k < s.length
  | [], k, h => by simp [ixS] at h
  | b :: s, k, h => by
    simp only [ixS] at h
    split at h
    · simp at h; subst h; simp
    · cases hx : ixS c s with
      | none => rw [hx] at h; simp at h
      | some j => rw [hx] at h; simp at h; subst h; have := ms_ hx; simp; omega
theorem eQ_ {c : UInt8} : ∀ {s t : Str}, ixS c s = none → ixS c (s ++ t) = (ixS c t).map (· + s.length)
  | [], t, _ => by simp
  | b :: s, t, h => by
    simp only [ixS] at h
    split at h
    · cases h
    · rename_i hb
      cases hx : ixS c s with
      | some j => rw [hx] at h; simp at h
      | none =>
        simp only [List.cons_append, ixS, hb, if_false]
        rw [eQ_ hx]
        cases ixS c t <;> simp; omega
theorem mt_ (s : Str) (k : Nat) {c : UInt8} (hc : s[k]? = some c) (h : ixS c (s.take k) = none) : ixS c s = some k := by
  have hk : k < s.length := (List.getElem?_eq_some_iff.1 hc).1
  have e : s = s.take k ++ s.drop k := (List.take_append_drop k s).symm
  have hd : s.drop k = c :: s.drop (k + 1) := by
    rw [List.drop_eq_getElem_cons hk]
    rw [List.getElem?_eq_getElem hk] at hc
    simp at hc; rw [hc]
  rw [e, eQ_ h, hd]
  simp [ixS]; omega
theorem pf_ (s : Str) (k : Nat) {c : UInt8} (hk : s.length ≤ k) (h : ixS c (s.take k) = none) : ixS c s = none := by rwa [List.take_of_length_le hk] at h
theorem lN_ (s : Str) (k : Nat) {b : UInt8} (c : UInt8) (hc : s[k]? = some c) (h : ixS b (s.take k) = none) (hne : c ≠ b) : ixS b (s.take (k + 1)) = none := by
  rw [List.take_add_one, hc, eQ_ h]
  simp [ixS, hne]
theorem ea_ (p : UInt8 → Bool) (s : Str) (k : Nat) (c : UInt8) (hc : s[k]? = some c) (h : (s.take k).all p = true) (hp : p c = true) : (s.take (k + 1)).all p = true := by
  rw [List.take_add_one, hc]; simp_all
theorem eS_ (p : UInt8 → Bool) (s : Str) (k : Nat) (c : UInt8) (hc : s[k]? = some c) (hp : p c = false) : s.all p = false := by
  rw [List.all_eq_false]
  exact ⟨c, List.mem_of_getElem? hc, by simp [hp]⟩
theorem fR_ (p : UInt8 → Bool) (s : Str) (k : Nat) (hk : s.length ≤ k) (h : (s.take k).all p = true) : s.all p = true := by
  rwa [List.take_of_length_le hk] at h
theorem oY_ {m : Str} {r : List Value} {k : Nat} {c : UInt8} (h : m[k]? = some c) : Sx.lg (Sx.bytesV m ++ r) k = some (.int .u8 (c.toNat : Int)) := by
  have hk : k < m.length := (List.getElem?_eq_some_iff.1 h).1
  rw [Sx.lg_eq, List.getElem?_append_left (by simpa [Sx.bytesV] using hk)]
  simp [Sx.bytesV, h]
end Go.Vs
namespace Go.Vs
open Go Go.Sx
inductive Con where
  | mk (kind : Int) (name : Str) (lo hi : Int) (ad : Option Addr) (cap : Nat) (parts : List Con)
namespace Con
def kind : Con → Int | mk k _ _ _ _ _ _ => k
def name : Con → Str | mk _ n _ _ _ _ _ => n
def lo : Con → Int | mk _ _ l _ _ _ _ => l
def hi : Con → Int | mk _ _ _ h _ _ _ => h
def ad : Con → Option Addr | mk _ _ _ _ a _ _ => a
def cap : Con → Nat | mk _ _ _ _ _ c _ => c
def parts : Con → List Con | mk _ _ _ _ _ _ p => p
def cells (c : Con) : List Value := [.int .i64 c.kind, str c.name, .int .i64 c.lo, .int .i64 c.hi, .slice c.ad c.parts.length c.cap]
def val (c : Con) : Value := .agg c.cells.toArray
theorem cells_len (c : Con) : c.cells.length = 5 := rfl
def sz : Con → Nat
  | mk _ _ _ _ _ _ ps => 1 + szs ps
where szs : List Con → Nat
  | [] => 0
  | p :: ps => sz p + szs ps
def mem : Con → Vw → Prop
  | mk _ _ _ _ a _ ps, v => bv_ v a (ps.flatMap cells) ∧ mems ps v
where mems : List Con → Vw → Prop
  | [], _ => True
  | p :: ps, v => mem p v ∧ mems ps v
theorem lH_ {v : Vw} : ∀ {ps : List Con}, mem.mems ps v ↔ ∀ p ∈ ps, p.mem v
  | [] => by simp [mem.mems]
  | p :: ps => by simp [mem.mems, lH_ (ps := ps)]
theorem mem_iff (c : Con) (v : Vw) : c.mem v ↔ bv_ v c.ad (c.parts.flatMap cells) ∧ ∀ p ∈ c.parts, p.mem v := by
  cases c with
  | mk k n l hi a cp ps => simp only [mem, lH_, ad, parts]
def ok : Con → Prop
  | mk k n l h _ c ps => -9223372036854775808 ≤ k ∧ k ≤ 9223372036854775807 ∧ n.length ≤ 140737488351232 ∧ -9223372036854775808 ≤ l ∧ l ≤ 9223372036854775807 ∧ -9223372036854775808 ≤ h ∧ h ≤ 9223372036854775807 ∧ ps.length ≤ c ∧ c ≤ 2199023255488 ∧ oks ps
where oks : List Con → Prop
  | [] => True
  | p :: ps => ok p ∧ oks ps
def fits : Con → Nat → Nat → Bool × Nat
  | mk _ _ _ _ _ _ ps, d, n => if 8 < d || 64 < n + 1 then (false, n + 1) else fitss ps (d + 1) (n + 1)
where fitss : List Con → Nat → Nat → Bool × Nat
  | [], _, n => (true, n)
  | p :: ps, d, n => match fits p d n with
    | (true, m) => fitss ps d m
    | (false, m) => (false, m)
end Con
end Go.Vs
namespace Go.Sx
section
variable {P : Program} {N : Nat} {v0 : Vw} {H0 : Hp} {R : Exit → Act → World → Prop} {K : List Kt} {fr : Fr} {H : Hp} {Γ : List Fct}
variable {ops : Array Oper} {l : List Oper} {d : Nat} {ty : TypeId} {ps : String} {af : Array Edge}
open Go Go.Vs
end
end Go.Sx
namespace Go.Vs.Con
end Go.Vs.Con
namespace Go.Vs
open Go Go.Sx
def needL : List (Int × Int × Int × Bool) := [(0, 0, 0, false), (0, 0, 0, false), (0, 0, 0, false), (1, 0, 0, false), (2, 0, 0, false), (0, 2, 8, false), (1, 1, 1, false), (1, 0, 0, true)]
def nd (k : Int) : Int × Int × Int × Bool := (needL[k.toNat]?).getD (0, 0, 0, false)
namespace Con
def fieldErr (c : Con) : Int :=
  if c.kind < 1 ∨ 7 < c.kind then 21
  else if (c.parts.length : Int) < (nd c.kind).2.1 ∨ (nd c.kind).2.2.1 < (c.parts.length : Int) ∨ ((nd c.kind).1 = 0 ∧ c.name ≠ []) then 21
  else if (nd c.kind).2.2.2 = true ∧ (c.lo < -1099511627776 ∨ c.hi < c.lo ∨ 1099511627776 < c.hi) then 21
  else if (nd c.kind).2.2.2 = false ∧ (c.lo ≠ 0 ∨ c.hi ≠ 0) then 21
  else if (nd c.kind).1 = 0 ∨ dl_ c.name = true ∨ ((nd c.kind).1 = 2 ∧ cg_ c.name = true) then 0
  else 20
def firstErr : Con → Int
  | c@(mk _ _ _ _ _ _ ps) => if c.fieldErr = 0 then firstErrs ps else c.fieldErr
where firstErrs : List Con → Int
  | [] => 0
  | p :: ps => if firstErr p = 0 then firstErrs ps else firstErr p
def check (c : Con) : Int := if (c.fits 0 0).1 then c.firstErr else 21
end Con
end Go.Vs
namespace Go.Sx
open Go Go.Vs
section
variable {P : Program} {N : Nat} {v0 : Vw} {H0 : Hp} {R : Exit → Act → World → Prop} {K : List Kt} {fr : Fr} {H : Hp} {Γ : List Fct}
theorem ret0 {fn : Func} {ι : Type} {F : Hp} {ret : ι → Value} {H' : ι → Hp} {Γ' : ι → List Fct} (hr : fn.results = #[]) (x : ι) (hx : .tuple #[] = ret x) (hH : H.Perm (H' x ++ F))
    (hΓ : ∀ v, v.sat H → bd_ Γ v → bd_ (Γ' x) v) : Ok N v0 H0 (bodyPost P fn (mG_ v0 H0 ret H' Γ') .ret) fr H Γ :=
  fl_ hH hΓ fun a v h1 h2 h3 h4 => ⟨h1.defers, ret x, by rw [results_none hr, hx], x, v, rfl, rfl, h2, h4, h3⟩
theorem dv_ {fn : Func} {ι : Type} {F : Hp} {ret : ι → Value} {H' : ι → Hp} {Γ' : ι → List Fct} (hr : fn.results = #[]) (x : ι) (hx : .tuple #[] = ret x) (hH : H.Perm (H' x ++ F))
    (hΓ : ∀ v, v.sat H → bd_ Γ v → bd_ (Γ' x) v) : Ok N v0 H0 (bodyPost P fn (mG_ v0 H0 ret H' Γ') .normal) fr H Γ :=
  ret0 hr x hx hH hΓ
variable {F : Fence} {n : Nat} {D : List Deferred} {ops : Array Oper} {l : List Oper} {d : Nat} {ty : TypeId} {ps : String} {af : Array Edge}
end
end Go.Sx
namespace Go.Vs.Con
section
variable {σ τ : Type} {f : Con → σ → σ ⊕ τ}
end
end Go.Vs.Con
namespace Go.Sx
open Go
theorem jaf {A B : Bool} (h : A = false) : false = (A && B) := by rw [h]; rfl
theorem jat {A B r : Bool} (h : A = true) (hb : B = r) : r = (A && B) := by rw [h, ← hb]; rfl
theorem jot {A B : Bool} (h : A = true) : true = (A || B) := by rw [h]; rfl
theorem jof {A B r : Bool} (h : A = false) (hb : B = r) : r = (A || B) := by rw [h, ← hb]; rfl
section
variable {P : Program} {N : Nat} {v0 : Vw} {H0 : Hp} {R : Exit → Act → World → Prop} {K : List Kt} {fr : Fr} {H : Hp} {Γ : List Fct}
variable {ops : Array Oper} {l : List Oper}
theorem jM_ {Q Q' : Exit → Act → World → Prop} {o : Oper} {a : Act} {w : World} {K1 K2 : Act → World → Prop} (h : ∀ a w, K1 a w → K2 a w) (hp : ∀ c a w, Q (.panic c) a w → Q' (.panic c) a w) (ho : ∀ a w, Q .outgrown a w → Q' .outgrown a w)
    (hh : o.wp P a w K1 Q) : o.wp P a w K2 Q' := by
  unfold Oper.wp at *
  generalize (execOp a.eval o).run P w = r at *
  cases r with
  | ok n w' =>
    cases n <;> simp only [Oper.upon] at hh ⊢ <;>
      first
        | exact h _ _ hh
        | exact Calls.mono hh (fun e w'' he => by
            cases e with
            | returned v => exact h _ _ he
            | panicked c => exact hp _ _ _ he
            | outgrown => obtain ⟨a, w, q⟩ := he; exact ⟨a, w, ho _ _ q⟩)
        | exact Rows.mono hh (fun _ _ he => h _ _ he)
  | halt x w' => cases x <;> simp only [Oper.upon] at hh ⊢ <;> first | exact hp _ _ _ hh | exact hh
theorem gT_ {l2 : List Oper} : ∀ (l1 : List Oper) (a : Act) (w : World), wpList P ops (post P R (.inv (wpList P ops (post P R K) l2) :: K)) l1 a w → wpList P ops (post P R K) (l1 ++ l2) a w
  | [], a, w, h => h
  | o :: l1, a, w, h => by
    simp only [wpList, List.cons_append] at h ⊢
    split
    · rename_i hw
      rw [if_pos hw] at h
      rcases h with h | ⟨h, a', w', q⟩
      · exact .inl (jM_ (fun a w q => gT_ l1 a w q) (fun c a w q => q) (fun a w q => q) h)
      · exact .inr ⟨h, a', w', q⟩
    · rename_i hw
      rw [if_neg hw] at h
      exact gT_ l1 _ _ h
def mY_ : Nat → List Oper → List Oper
  | 0, _ => []
  | _, [] => []
  | n + 1, o :: l => o :: mY_ n l
def mZ_ : Nat → List Oper → List Oper
  | 0, l => l
  | _, [] => []
  | n + 1, _ :: l => mZ_ n l
theorem iX_ : ∀ (n : Nat) (l : List Oper), mY_ n l ++ mZ_ n l = l
  | 0, _ => rfl
  | n + 1, [] => rfl
  | n + 1, o :: l => by show o :: (mY_ n l ++ mZ_ n l) = o :: l; rw [iX_ n l]
def MetJ (N : Nat) (v0 : Vw) (H0 : Hp) (fr : Fr) (H : Hp) (Γ : List Fct) (a : Act) (w : World) : Prop := ∃ v, v.w = w ∧ Fr.sat N fr a ∧ v.sat H ∧ v0.to H0 v H ∧ bd_ Γ v
theorem aT_ (n : Nat) (X : Bool) (fr' : Bool → Fr) (h1 : Ops P R N v0 H0 ops (mY_ n l) (.inv (MetJ N v0 H0 (fr' X) H Γ) :: K) fr H Γ)
    (h2 : ∀ r, X = r → Ops P R N v0 H0 ops (mZ_ n l) K (fr' r) H Γ) : Ops P R N v0 H0 ops l K fr H Γ := by
  intro a v g1 g2 g3 g4
  rw [← iX_ n l]
  refine gT_ _ _ _ ?_
  have h3 := h1 a v g1 g2 g3 g4
  refine wpL_mono ?_ _ _ _ h3
  rintro a' w' ⟨v', rfl, k1, k2, k3, k4⟩
  exact h2 X rfl a' v' k1 k2 k3 k4
where wpL_mono {J J' : Act → World → Prop} (hJ : ∀ a w, J a w → J' a w) : ∀ (l1 : List Oper) (a : Act) (w : World), wpList P ops (post P R (.inv J :: K)) l1 a w → wpList P ops (post P R (.inv J' :: K)) l1 a w
  | [], a, w, h => hJ _ _ h
  | o :: l1, a, w, h => by
    simp only [wpList] at h ⊢
    split
    · rename_i hw
      rw [if_pos hw] at h
      rcases h with h | ⟨h, a', w', q⟩
      · exact .inl (jM_ (fun a w q => wpL_mono hJ l1 a w q) (fun c a w q => q) (fun a w q => q) h)
      · exact .inr ⟨h, a', w', q⟩
    · rename_i hw
      rw [if_neg hw] at h
      exact wpL_mono hJ l1 _ _ h
theorem met {fr' : Fr} (hfr : Fr.le fr' fr) : Ok N v0 H0 (MetJ N v0 H0 fr' H Γ) fr H Γ :=
  ds_ fr' hfr fun _ v h1 h2 h3 h4 => ⟨v, rfl, h1, h2, h3, h4⟩
end
end Go.Sx
namespace Go.Sx
open Go
theorem ad_ {α : Type} {f : α → List Value} {n : Nat} (hf : ∀ x, (f x).length = n) {l : List α} {i : Nat} {x : α} (hx : l[i]? = some x) : ∀ j y, (f x)[j]? = some y → (l.flatMap f)[i * n + j]? = some y := by
  intro j y hj
  have hlt : j < n := by
    have := (List.getElem?_eq_some_iff.1 hj).1
    rwa [hf] at this
  rw [kF_ f n hf l i j x hx hlt]
  exact hj
theorem ay_ {α : Type} {f : α → List Value} {n : Nat} (hf : ∀ x, (f x).length = n) (h0 : 0 < n) {v : Vw} {ad : Option Addr} {l : List α} {i : Nat} {x : α} (h : bv_ v ad (l.flatMap f)) (hx : l[i]? = some x) : ∃ b off, ad = some ⟨b, off, none⟩ := by
  refine h.addr fun e => ?_
  have hc := ad_ hf hx 0 _ (List.getElem?_eq_getElem (by rw [hf]; exact h0))
  rw [e] at hc
  simp at hc
def aO_ (s : List UInt8) : List Value := [str s]
theorem at_ (s : List UInt8) : (aO_ s).length = 1 := rfl
end Go.Sx
namespace Go.Vs
open Go Go.Sx
structure Ax where
  kind : Int
  opn : Bool
  left : Con
  right : Con
  ad : Option Addr
  cap : Nat
  roles : List Str
  role : Str
  a : Str
  b : Str
namespace Ax
def cells (x : Ax) : List Value := .int .i64 x.kind :: .bool x.opn :: (x.left.cells ++ (x.right.cells ++ [.slice x.ad x.roles.length x.cap, str x.role, str x.a, str x.b]))
def val (x : Ax) : Value := .agg x.cells.toArray
theorem cells_len (x : Ax) : x.cells.length = 16 := by simp [cells, Con.cells_len]
def mem (x : Ax) (v : Vw) : Prop := x.left.mem v ∧ x.right.mem v ∧ bv_ v x.ad (x.roles.flatMap aO_)
structure ok (x : Ax) : Prop where
  lo : -9223372036854775808 ≤ x.kind
  hi : x.kind ≤ 9223372036854775807
  left : x.left.ok
  right : x.right.ok
  len : x.roles.length ≤ x.cap
  cap : x.cap ≤ 8796093021952
  roles : ∀ r ∈ x.roles, r.length ≤ 140737488351232
  role : x.role.length ≤ 140737488351232
  a : x.a.length ≤ 140737488351232
  b : x.b.length ≤ 140737488351232
end Ax
def Con.empty (c : Con) : Bool := ((((c.kind == 0) && (c.name == [])) && (c.lo == 0)) && (c.hi == 0)) && ((c.parts.length : Int) == 0)
def Con.bare : Con → Bool
  | mk k _ _ _ _ _ ps => (k == 4) || ((k == 5) && bares ps)
where bares : List Con → Bool
  | [] => false
  | p :: ps => bare p || bares ps
structure Use where
  left : Bool
  right : Bool
  role : Bool
  a : Bool
  b : Bool
  least : Int
  most : Int
def Use.cells (u : Use) : List Value := [.bool u.left, .bool u.right, .bool u.role, .bool u.a, .bool u.b, .int .i64 u.least, .int .i64 u.most]
theorem Use.cells_len (u : Use) : u.cells.length = 7 := rfl
def useL : List Use := [⟨false, false, false, false, false, 0, 0⟩, ⟨true, true, false, false, false, 0, 0⟩, ⟨true, true, false, false, false, 0, 0⟩, ⟨true, true, false, false, false, 0, 0⟩, ⟨false, true, true, false, false, 0, 0⟩,
  ⟨false, false, true, false, false, 1, 1⟩, ⟨false, false, true, false, false, 2, 4⟩, ⟨false, false, true, false, false, 0, 0⟩, ⟨false, true, false, true, false, 0, 0⟩, ⟨false, false, true, true, true, 0, 0⟩]
def us (k : Int) : Use := (useL[k.toNat]?).getD ⟨false, false, false, false, false, 0, 0⟩
namespace Ax
def shaped (x : Ax) : Bool :=
  if x.kind < 1 ∨ 9 < x.kind then false else
    let u := us x.kind
    (((((((u.left || x.left.empty) && (u.right || x.right.empty)) && (u.role || (x.role == []))) && (u.a || (x.a == []))) && (u.b || (x.b == []))) && decide (u.least ≤ (x.roles.length : Int))) && decide ((x.roles.length : Int) ≤ u.most))
def namedU (x : Ax) (u : Use) : Bool := !(u.role && !dl_ x.role || u.a && !bc_ x.a || u.b && !bc_ x.b) && x.roles.all dl_
def check (x : Ax) : Int :=
  if x.shaped = false then 22
  else if x.namedU (us x.kind) = false then 20
  else if (us x.kind).left = true ∧ x.left.check ≠ 0 then x.left.check
  else if (us x.kind).right = true ∧ x.right.check ≠ 0 then x.right.check
  else if x.kind = 2 ∧ (x.left.bare = true ∨ x.right.bare = true) then 22
  else if (x.kind = 1 ∨ x.kind = 4 ∨ x.kind = 8) ∧ x.right.bare = true then 22
  else 0
end Ax
end Go.Vs
namespace Go.Vs
open Go Go.Sx
structure NUse where
  a : Bool
  b : Bool
  c : Bool
  r : Bool
  s : Bool
  t : Bool
  numbers : Bool
def NUse.cells (u : NUse) : List Value := [.bool u.a, .bool u.b, .bool u.c, .bool u.r, .bool u.s, .bool u.t, .bool u.numbers]
theorem NUse.cells_len (u : NUse) : u.cells.length = 7 := rfl
def oU_ : List NUse := [⟨false, false, false, false, false, false, false⟩, ⟨true, false, true, false, false, false, false⟩, ⟨true, true, true, false, false, false, false⟩, ⟨true, false, true, true, false, false, false⟩, ⟨true, false, true, true, false, false, false⟩,
  ⟨false, false, false, true, false, true, false⟩, ⟨false, false, false, true, true, true, false⟩, ⟨false, false, false, true, false, false, false⟩, ⟨true, false, false, true, false, false, true⟩, ⟨false, false, true, true, false, false, true⟩]
def nus (k : Int) : NUse := (oU_[k.toNat]?).getD ⟨false, false, false, false, false, false, false⟩
end Go.Vs
namespace Go.Sx
open Go
def eD_ (b : Nat) (o : Obj) : Fct where
  p := fun v => v.im b ∧ v.w.heap[b]? = some o
  mono := fun v v' h hp => ⟨h.imUp b hp.1, by rw [h.block b hp.1]; exact hp.2⟩
section
variable {P : Program} {N : Nat} {v0 : Vw} {H0 : Hp} {R : Exit → Act → World → Prop} {K : List Kt} {fr : Fr} {H : Hp} {Γ : List Fct}
variable {ops : Array Oper} {l : List Oper} {d : Nat} {ty : TypeId} {ps : String} {af : Array Edge}
theorem dE_ {t : TypeId} (hN : Nat.blt d N = true) (hk : ∀ b, Ops P R N v0 H0 ops l K ((d, .map (some b)) :: fr) ((b, .map #[] 0) :: H) Γ) :
    Ops P R N v0 H0 ops (⟨some d, .makeMap t none, ty, ps, af, none⟩ :: l) K fr H Γ :=
  fY_ (x := fun b => .map (some b)) hN (fun a v h1 _ _ => by simp [execOp, Instr.makeMap, newObj]; rfl) hk
def gS_ (P : Program) (k : TypeId) (key : Value) : Prop := ∀ e w, (Instr.checkKey e 10000 k key).run P w = .ok () w
def eg_ (P : Program) (k : TypeId) (key : Value) (es : List MapEntry) (r : Option (Nat × Value)) : Prop := ∀ w, (Instr.findKey k key es).run P w = .ok r w
theorem nJ_ {k : TypeId} {i : IntKind} {n : Int} (hd : P.underlying k = some (.int i)) : gS_ P k (.int i n) := fun e w => by
  exact key (9999) e w
where key (m : Nat) (e : Bool) (w : World) : (Instr.checkKey e (m + 1) k (.int i n)).run P w = .ok () w := by simp [Instr.checkKey, run_underlying hd]
theorem gL_ {k : TypeId} {dd : TypeDesc} {key : Value} {es : List MapEntry} {r : Option (Nat × Value)} (hd : P.underlying k = some dd) (h : Instr.findNow dd key es 0 = some r) : eg_ P k key es r := fun w => by
  simp [Instr.findKey, run_underlying hd, h]
theorem iw_ {t kt et : TypeId} {x y : Operand} {b c i : Nat} {es : Array MapEntry} {key u : Value} (hu : ∀ w, (underlying t).run P w = .ok (.map kt et) w) (hx : Fr.ev fr x = some (.map (some b))) (hy : Fr.ev fr y = some key)
    (hm : ∀ v, v.sat H → bd_ Γ v → v.w.heap[b]? = some (.map es c)) (hk : gS_ P kt key) (hf : eg_ P kt key es.toList (some (i, u))) : Yld P N fr H Γ (.lookup t x y false) ty u :=
  fun a v h1 h2 h4 _ _ _ => by
    have hb := MapKept.run_getObj_map (P := P) (hm v h2 h4)
    simp [execOp, h1.ev hx, h1.ev hy, Instr.lookup, hu, hb, hk _ _, hf _]
theorem hh_ {t kt et : TypeId} {x y : Operand} {b c : Nat} {es : Array MapEntry} {key z : Value} (hu : ∀ w, (underlying t).run P w = .ok (.map kt et) w) (hz : ∀ w, (zeroValue et).run P w = .ok z w) (hx : Fr.ev fr x = some (.map (some b))) (hy : Fr.ev fr y = some key)
    (hm : ∀ v, v.sat H → bd_ Γ v → v.w.heap[b]? = some (.map es c)) (hk : gS_ P kt key) (hf : eg_ P kt key es.toList none) : Yld P N fr H Γ (.lookup t x y false) ty z :=
  fun a v h1 h2 h4 _ _ _ => by
    have hb := MapKept.run_getObj_map (P := P) (hm v h2 h4)
    simp [execOp, h1.ev hx, h1.ev hy, Instr.lookup, hu, hb, hk _ _, hf _, hz]
theorem iT_ {o : Op} {t kt et : TypeId} {x y z : Operand} {b c : Nat} (i : Nat) {es : Array MapEntry} {key u : Value} (ho : o = .insert t x y z ∨ o = .mapUpdate t x y z) (hu : ∀ w, (underlying t).run P w = .ok (.map kt et) w)
    (hx : Fr.ev fr x = some (.map (some b))) (hy : Fr.ev fr y = some key) (hz : Fr.ev fr z = some u) (hi : H[i]? = some (b, .map es c)) (hk : gS_ P kt key) (hf : eg_ P kt key es.toList none)
    (hkk : Ops P R N v0 H0 ops l K fr (H.set i (b, .map (es.push ⟨key, u, c⟩) (c + 1))) Γ) : Ops P R N v0 H0 ops (⟨none, o, ty, ps, af, none⟩ :: l) K fr H Γ :=
  cZ_ rfl fun a v h1 h2 h3 h4 => by
    have hb := (h2.own _ (List.mem_of_getElem? hi)).1
    have hg := MapKept.run_getObj_map (P := P) hb
    have hs := MapKept.run_setObj_map (P := P) (.map (es.push ⟨key, u, c⟩) (c + 1)) hb
    have he : (execOp a.eval ⟨none, o, ty, ps, af, none⟩).run P v.w = .ok .skip { v.w with heap := v.w.heap.setIfInBounds b (.map (es.push ⟨key, u, c⟩) (c + 1)) } := by
      rcases ho with rfl | rfl <;> simp [execOp, h1.ev hx, h1.ev hy, h1.ev hz, Instr.mapUpdate, hu, hg, hk _ _, hf _, hs]
    unfold Oper.wp
    rw [he]
    have hh := MapKept.heap_set (o' := .map (es.push ⟨key, u, c⟩) (c + 1)) hb
    obtain ⟨g1, g2⟩ := hp_ (w' := { v.w with heap := v.w.heap.setIfInBounds b (.map (es.push ⟨key, u, c⟩) (c + 1)) }) h2 hi rfl rfl rfl (Nat.le_refl _) (by simp) hh.1 (fun k hk => hh.2 k hk)
    exact hkk a _ h1 g1 (h3.trans g2) (ck_ (g2.le h2) h4)
theorem eo_ {f : FuncId} {args : Array Value} {r : Value} (hc : fK_ P f) (h : ∀ v : Vw, v.sat H → bd_ Γ v → Calls P f args v.w fun e w' => e = .returned r ∧ RowKit.Below v.w.heap.size v.w w' ∧ (v.sl ∨ v.w.drawn ≤ w'.drawn)) : Tri P f args H Γ (fun _ : Unit => r) (fun _ => H) (fun _ => []) :=
  ⟨hc, fun v h1 h2 => (h v h1 h2).mono fun e w' ⟨he, hb, hd⟩ => by
    have hsz : v.w.heap.size ≤ w'.heap.size := hb.size
    have hlt : ∀ p ∈ H, p.1 < v.w.heap.size := fun p hp => (Array.getElem?_eq_some_iff.1 (h1.own p hp).1).1
    refine ⟨(), ⟨v.im, w', v.sl⟩, he, rfl, ⟨fun p hp => ⟨?_, (h1.own p hp).2⟩, h1.nodup, fun b hbb => Nat.lt_of_lt_of_le (h1.lt b hbb) hsz⟩, trivial, ⟨hb.os, hb.tape, hb.output, hsz, fun b hbb _ => hb.block b hbb, fun _ h => h, fun _ h => .inl h, fun _ h => .inl h, rfl, hd⟩⟩
    show w'.heap[p.1]? = _
    rw [hb.block p.1 (hlt p hp)]
    exact (h1.own p hp).1⟩
theorem ne_ {t e : TypeId} {sz by' : Nat} {z : Value} (hu : P.underlying t = some (.slice e)) (hi : (P.info? e).map (fun i => (i.zero, i.size, i.bytes)) = some (some z, sz, by')) (hz : z.cells.size = sz) (hp : 0 < sz) : Elt P t e sz by' := by
  refine ⟨hu, ?_, hp⟩
  cases h : P.info? e with
  | none => rw [h] at hi; cases hi
  | some i =>
    rw [h] at hi
    simp only [Option.map_some, Option.some.injEq, Prod.mk.injEq] at hi
    exact ⟨i, z, rfl, hi.1, hi.2.1, hi.2.2, hz⟩
theorem cy_ {b : Nat} {cs : List Value} {T : TypeId} {fz : Nat × Nat} (i : Nat) (hi : H[i]? = some (b, .cells cs.toArray T fz)) : ∀ v : Vw, v.sat H → bd_ Γ v → ∀ j u, cs[j]? = some u → v.w.cell? ((⟨b, 0, none⟩ : Addr).add j) = some u := by
  intro v h1 _ j u hj
  rw [cU_, Nat.zero_add, fy_ h1 hi]
  simpa using hj
theorem cH_ {fn : Func} {ι : Type} {F : Hp} {ret : ι → Value} {H' : ι → Hp} {Γ' : ι → List Fct} (x : ι) (hx : ∀ (a : Act) (v : Vw), Fr.sat N fr a → v.sat H → (results fn a.tmps).run P v.w = .ok (ret x) v.w) (hH : H.Perm (H' x ++ F))
    (hΓ : ∀ v, v.sat H → bd_ Γ v → bd_ (Γ' x) v) : Ok N v0 H0 (bodyPost P fn (mG_ v0 H0 ret H' Γ') .ret) fr H Γ :=
  fun a v h1 h2 h3 h4 => ⟨h1.defers, ret x, hx a v h1 h2, x, v, rfl, rfl, (h2.perm hH).sub, hΓ v h2 h4, h3.subR fun b hb => by
    have : b ∈ (H' x ++ F).map Prod.fst := by rw [List.map_append]; exact List.mem_append_left _ hb
    exact (hH.map Prod.fst).mem_iff.2 this⟩
theorem eB_ {fn : Func} {t b n : Nat} {ty T : TypeId} {us : List Value} (i : Nat) (hr : fn.results = #[.cell t ty]) (ha : ∀ w, (isAgg ty).run P w = .ok true w) (hs : ∀ w, (sizeOf ty).run P w = .ok n w) (hn : us.length = n) (hx : Fr.get fr t = some (.pointer (some ⟨b, 0, none⟩)))
    (hi : H[i]? = some (b, .cells us.toArray T (0, 0))) (a : Act) (v : Vw) (h1 : Fr.sat N fr a) (h2 : v.sat H) : (results fn a.tmps).run P v.w = .ok (.agg us.toArray) v.w := by
  have e := h1.val t _ hx
  have hl := dn_ (t := ty) (w := v.w) (b := b) (off := 0) ha hs hn (fun j y hj => by rw [Nat.zero_add, fy_ h2 hi]; simpa using hj)
  simp [results, hr, e, asAddr, hl]
theorem pz_ {Hs : Hp} {Γs : List Fct} {fuel : Nat} {listed : Array Bool} (is : List Nat) (hr : Region.ready .any ops listed = is) (hne : is ≠ [])
    (h : ∀ i, i ∈ is → ∃ o, ops[i]? = some o ∧ Ops P R N v0 H0 ops [o] (.inv (Nx P R ops Hs Γs fuel (listed.setIfInBounds i true) K) :: K) fr H Γ) : Any P R N v0 H0 ops Hs Γs (fuel + 1) listed K fr H Γ := by
  intro a v h1 h2 h3 h4
  refine wpAnyH_all hr hne fun j hj => ?_
  obtain ⟨o, hi, h⟩ := h j hj
  have := h a v h1 h2 h3 h4
  unfold wpOp
  simp only [hi]
  unfold wpList at this
  split
  · rename_i hw
    rw [if_pos hw] at this
    rcases this with q | q
    · left
      unfold Oper.wp at q ⊢
      generalize (execOp a.eval o).run P v.w = r at q ⊢
      cases r with
      | ok n w' =>
        cases n <;> simp only [Oper.upon] at q ⊢ <;> exact q
      | halt x w' =>
        cases x <;> simp only [Oper.upon] at q ⊢
        case panic u => exact q
    · exact .inr q
  · rename_i hw
    rw [if_neg hw] at this
    exact this
theorem fr_ {Hs : Hp} {Γs : List Fct} {fuel : Nat} {listed : Array Bool} (i j : Nat) {o o' : Oper} (hi : ops[i]? = some o) (hj : ops[j]? = some o') (hr : Region.ready .any ops listed = [i, j])
    (h : Ops P R N v0 H0 ops [o] (.inv (Nx P R ops Hs Γs fuel (listed.setIfInBounds i true) K) :: K) fr H Γ) (h' : Ops P R N v0 H0 ops [o'] (.inv (Nx P R ops Hs Γs fuel (listed.setIfInBounds j true) K) :: K) fr H Γ) : Any P R N v0 H0 ops Hs Γs (fuel + 1) listed K fr H Γ :=
  pz_ [i, j] hr (by simp) fun k hk => by
    simp only [List.mem_cons, List.not_mem_nil, or_false] at hk
    rcases hk with rfl | rfl
    · exact ⟨o, hi, h⟩
    · exact ⟨o', hj, h'⟩
theorem aQ_.some {e : TypeId} {sz n : Nat} {sv : Value} {xs : List Value} {Hr : Hp} (h : aQ_ e sz sv n xs Hr) (hn : n ≠ 0) :
    ∃ g cap cur, sv = .slice (some ⟨g, 0, none⟩) n cap ∧ Hr = [(g, .cells cur e (0, 0))] ∧ n ≤ cap ∧ cap ≤ maxLen ∧ cur.size = cap * sz ∧ cur.toList.take (n * sz) = xs := by
  rcases h.2 with ⟨_, h2, _⟩ | h2
  · exact absurd h2 hn
  · exact h2
theorem io_ {us : List Value} (h : us.all Value.oneCell' = true) : ∀ u ∈ us, u.oneCell' = true := fun u hu => List.all_eq_true.1 h u hu
theorem aR_ {id : Nat} (Hs : Hp) (hm : P.follows .mixedOrders = true) (h : Any P R N v0 H0 ops Hs Γ ops.size (Array.replicate ops.size false) K fr H Γ) : Run P R N v0 H0 (.region id ops true) K fr H Γ := lj_ Hs Γ hm h
theorem oT_ {b : Nat} {cs : List Value} {T : TypeId} {fz : Nat × Nat} {v : Vw} (j : Nat) {u : Value} (h : (eD_ b (.cells cs.toArray T fz)).p v) (hu : cs[j]? = some u) : v.w.cell? ⟨b, j, none⟩ = some u := by
  simp [World.cell?, h.2, hu]
theorem al_ {t : TypeId} {x : Operand} {b off : Nat} {cs : List Value} {T : TypeId} {fz : Nat × Nat} {u : Value} {ty : TypeId} (ha : ∀ w, (isAgg t).run P w = .ok false w) (hx : Fr.ev fr x = some (.pointer (some ⟨b, off, none⟩))) (ho : ∀ v, v.sat H → bd_ Γ v → (eD_ b (.cells cs.toArray T fz)).p v) (hu : cs[off]? = some u) : Yld P N fr H Γ (.load t x) ty u :=
  gA_ hx fun v h2 h4 => eO_ ha (oT_ off (ho v h2 h4) hu)
end
end Go.Sx
namespace Go.Vs
open Go Go.Sx
namespace Con
def text : Con → Str
  | mk k nm lo hi _ _ ps =>
    if k = 1 then [101, 118, 101, 114, 121, 116, 104, 105, 110, 103]
    else if k = 2 then [110, 111, 116, 104, 105, 110, 103]
    else if k = 3 then nm
    else if k = 4 then [123] ++ nm ++ [125]
    else if k = 5 then Lib.join (operands ps) [32, 97, 110, 100, 32]
    else if k = 6 then Lib.join [[115, 111, 109, 101], nm, (operands ps).headD []] [32]
    else Lib.join [nm, [105, 110], Lib.itoa lo, [116, 111], Lib.itoa hi] [32]
where operands : List Con → List Str
  | [] => []
  | p :: ps => (if p.kind = 5 then [40] ++ text p ++ [41] else text p) :: operands ps
structure Fields (c : Con) : Prop where
  k1 : 1 ≤ c.kind
  k7 : c.kind ≤ 7
  nm : c.name.length ≤ 24
  le : (nd c.kind).2.1 ≤ c.parts.length
  mo : c.parts.length ≤ (nd c.kind).2.2.1
theorem nA_ {s : Str} (h : dl_ s = true) : s.length ≤ 24 := by
  unfold dl_ at h
  split at h <;> simp_all
theorem kt_ {s : Str} (h : cg_ s = true) : s.length ≤ 24 := by
  unfold cg_ at h
  simp at h
  omega
theorem fields_of {c : Con} (h : c.fieldErr = 0) : Fields c := by
  unfold fieldErr at h
  split at h
  · cases h
  · rename_i h1
    split at h
    · cases h
    · rename_i h2
      split at h
      · cases h
      · split at h
        · cases h
        · split at h
          · rename_i h5
            simp only [not_or, not_and] at h1 h2
            refine ⟨by omega, by omega, ?_, by omega, by omega⟩
            rcases h5 with h5 | h5 | h5
            · have := h2.2.2 h5
              simp only [ne_eq, Decidable.not_not] at this
              rw [this]; simp
            · exact nA_ h5
            · exact kt_ h5.2
          · cases h
def textN (c : Con) : Str := if c.check = 0 then c.text else []
def atom (c : Con) : Str :=
  if c.kind = 1 then [42] else if c.kind = 2 then [33] else if c.kind = 3 then c.name else if c.kind = 4 then [123] ++ c.name ++ [125] else [60] ++ c.textN ++ [62]
end Con
theorem np_ {cur : Array Value} {n : Nat} {xs : List Str} (h : cur.toList.take (n * 1) = xs.flatMap aO_) : ∀ (j : Nat) (x : Str), xs[j]? = some x → cur[j]? = some (str x) := by
  intro j x hj
  have h1 := ad_ at_ hj 0 (str x) rfl
  rw [← h, Nat.mul_one, Nat.add_zero] at h1
  rw [List.getElem?_take] at h1
  split at h1
  · simpa using h1
  · cases h1
end Go.Vs
namespace Go.Sx
open Go
section
variable {P : Program}
theorem ir_ {d : Nat} {xs ys : Array Value} (w : World) : (Op.eqFields d xs ys []).run P w = .ok true w := by simp [Op.eqFields]
theorem cq_ {d : Nat} {xs ys : Array Value} {f : Field} {fs : List Field} {a b : Value} {r s : Bool} {w : World} (hn : (f.name == "_") = false) (hg : ∀ w, (isAgg f.type).run P w = .ok false w) (ha : xs[f.offset]? = some a) (hb : ys[f.offset]? = some b)
    (he : (Op.equalIn d f.type a b).run P w = .ok r w) (hr : (Op.eqFields d xs ys fs).run P w = .ok s w) : (Op.eqFields d xs ys (f :: fs)).run P w = .ok (r && s) w := by
  have hn' : f.name ≠ "_" := by simpa using hn
  simp only [Op.eqFields, hn', ne_eq, not_false_eq_true, if_true, part, Sem.run_bind, hg, Result.andThen_ok, Bool.false_eq_true, if_false, ha, hb, Sem.run_pure, he]
  cases r
  · simp
  · simpa using hr
theorem eqI {d : Nat} {t : TypeId} {k : IntKind} {a b : Int} (h : P.underlying t = some (.int k)) (w : World) : (Op.equalIn (d + 1) t (.int k a) (.int k b)).run P w = .ok (a == b) w := run_equalIn_int w d t k k a b h
theorem eqS {d : Nat} {t : TypeId} {a b : List UInt8} (h : P.underlying t = some .string) (w : World) : (Op.equalIn (d + 1) t (str a) (str b)).run P w = .ok (a == b) w := by
  have := run_equalIn_string w d t ⟨a.toArray⟩ ⟨b.toArray⟩ h
  simp only [ByteArray.toList_eq] at this
  exact this
theorem ckF {e : Bool} {n : Nat} {t : TypeId} {fs : Array Field} {xs : Array Value} {w : World} (hu : P.underlying t = some (.struct fs)) (h : ∀ f ∈ fs.toList, (f.name == "_") = false ∧ (∀ w, (isAgg f.type).run P w = .ok false w) ∧ ∃ a, xs[f.offset]? = some a ∧ (∀ w, (Instr.checkKey e n f.type a).run P w = .ok () w)) :
    (Instr.checkKey e (n + 1) t (.agg xs)).run P w = .ok () w := by
  simp only [Instr.checkKey, Sem.run_bind, run_underlying hu, Result.andThen_ok]
  rw [← Array.forIn_toList]
  generalize fs.toList = l at h
  induction l with
  | nil => simp
  | cons f l ih =>
    obtain ⟨h1, h2, a, h3, h4⟩ := h f (by simp)
    have hn' : f.name ≠ "_" := by simpa using h1
    simp only [List.forIn_cons, hn', ne_eq, not_false_eq_true, if_true, part, Sem.run_bind, h2, Result.andThen_ok, Bool.false_eq_true, if_false, h3, Sem.run_pure, h4]
    exact ih fun g hg => h g (by simp [hg])
theorem hD_ {α : Type} [DecidableEq α] {k : TypeId} {fs : Array Field} {val : α → Value} (hu : P.underlying k = some (.struct fs)) (heq : ∀ p q w, (Op.equal k (val p) (val q)).run P w = .ok (decide (p = q)) w) (p : α) :
    ∀ (l : List α) (es : List MapEntry) (i : Nat), es.map (·.key) = l.map val → (p ∉ l → ∀ w, (Instr.findAsking k (val p) es i).run P w = .ok none w) ∧ (p ∈ l → (∀ x ∈ es, x.val = .bool true) → ∃ j, ∀ w, (Instr.findAsking k (val p) es i).run P w = .ok (some (j, .bool true)) w)
  | [], es, i, h => by
    have : es = [] := by simpa using h
    subst this
    simp [Instr.findAsking]
  | q :: l, [], i, h => by simp at h
  | q :: l, e :: es, i, h => by
    simp only [List.map_cons, List.cons.injEq] at h
    have ih := hD_ hu heq p l es (i + 1) h.2
    by_cases hpq : p = q
    · subst hpq
      refine ⟨fun hn => absurd List.mem_cons_self hn, fun _ hv => ⟨i, fun w => ?_⟩⟩
      simp only [Instr.findAsking, Sem.run_bind, h.1, heq, Result.andThen_ok, decide_true, if_true, Sem.run_pure, hv e (by simp)]
    · refine ⟨fun hn w => ?_, fun hm hv => ?_⟩
      · simp only [Instr.findAsking, Sem.run_bind, h.1, heq, Result.andThen_ok, hpq, decide_false, Bool.false_eq_true, if_false]
        exact ih.1 (fun h => hn (List.mem_cons_of_mem _ h)) w
      · obtain ⟨j, hj⟩ := ih.2 (by simpa [hpq] using hm) fun x hx => hv x (by simp [hx])
        refine ⟨j, fun w => ?_⟩
        simp only [Instr.findAsking, Sem.run_bind, h.1, heq, Result.andThen_ok, hpq, decide_false, Bool.false_eq_true, if_false]
        exact hj w
theorem kG_ {α : Type} [DecidableEq α] {k : TypeId} {fs : Array Field} {val : α → Value} (hu : P.underlying k = some (.struct fs)) (heq : ∀ p q w, (Op.equal k (val p) (val q)).run P w = .ok (decide (p = q)) w) (p : α) (l : List α) (es : List MapEntry) (h : es.map (·.key) = l.map val) :
    (p ∉ l → eg_ P k (val p) es none) ∧ (p ∈ l → (∀ x ∈ es, x.val = .bool true) → ∃ j, eg_ P k (val p) es (some (j, .bool true))) := by
  have hA := hD_ hu heq p l es 0 h
  have hnow : ∀ (e : MapEntry) (r : List MapEntry), Instr.findNow (.struct fs) (val p) (e :: r) 0 = none := fun e r => by simp [Instr.findNow, Instr.sameNow]
  cases es with
  | nil =>
    have : l = [] := by simpa using h.symm
    subst this
    exact ⟨fun _ w => by simp [Instr.findKey, run_underlying hu, Instr.findNow], fun h => by simp at h⟩
  | cons e r =>
    refine ⟨fun hn w => ?_, fun hm hv => ?_⟩
    · simp only [Instr.findKey, Sem.run_bind, run_underlying hu, Result.andThen_ok, hnow]
      exact hA.1 hn w
    · obtain ⟨j, hj⟩ := hA.2 hm hv
      refine ⟨j, fun w => ?_⟩
      simp only [Instr.findKey, Sem.run_bind, run_underlying hu, Result.andThen_ok, hnow]
      exact hj w
end
end Go.Sx
namespace Go.Vs
open Go Go.Sx
structure Pc where
  kind : Int
  a : Str
  b : Str
  c : Str
  r : Str
  s : Str
  t : Str
  lo : Int
  hi : Int
  frm : Int
  deriving DecidableEq
namespace Pc
def cells (p : Pc) : List Value := [.int .i64 p.kind, str p.a, str p.b, str p.c, str p.r, str p.s, str p.t, .int .i64 p.lo, .int .i64 p.hi, .int .i64 p.frm]
def val (p : Pc) : Value := .agg p.cells.toArray
theorem cells_len (p : Pc) : p.cells.length = 10 := rfl
theorem cells_one (p : Pc) : p.cells.all Value.oneCell' = true := rfl
def eqb (p q : Pc) : Bool := (p.kind == q.kind) && ((p.a == q.a) && ((p.b == q.b) && ((p.c == q.c) && ((p.r == q.r) && ((p.s == q.s) && ((p.t == q.t) && ((p.lo == q.lo) && ((p.hi == q.hi) && ((p.frm == q.frm) && true)))))))))
theorem eqb_eq (p q : Pc) : p.eqb q = decide (p = q) := by
  rw [Bool.eq_iff_iff]
  cases p; cases q
  simp [eqb]
end Pc
structure Fc where
  kind : Int
  a : Str
  b : Str
  r : Str
  lo : Int
  hi : Int
  deriving DecidableEq
namespace Fc
def cells (p : Fc) : List Value := [.int .i64 p.kind, str p.a, str p.b, str p.r, .int .i64 p.lo, .int .i64 p.hi]
def val (p : Fc) : Value := .agg p.cells.toArray
theorem cells_len (p : Fc) : p.cells.length = 6 := rfl
def eqb (p q : Fc) : Bool := (p.kind == q.kind) && ((p.a == q.a) && ((p.b == q.b) && ((p.r == q.r) && ((p.lo == q.lo) && ((p.hi == q.hi) && true)))))
theorem eqb_eq (p q : Fc) : p.eqb q = decide (p = q) := by
  rw [Bool.eq_iff_iff]
  cases p; cases q
  simp [eqb]
end Fc
end Go.Vs
namespace Go.Sx
open Go
theorem bC_ {P : Program} {N : Nat} {fr : Fr} {H : Hp} {Γ : List Fct} {op : Op} {ty : TypeId} {x y : Value} (h : Yld P N fr H Γ op ty x) (e : x = y) : Yld P N fr H Γ op ty y := e ▸ h
theorem nc_ {α : Type} (f : α → List Value) (n : Nat) (hf : ∀ x, (f x).length = n) : ∀ (l : List α) (i : Nat), (l.flatMap f).drop (i * n) = (l.drop i).flatMap f
  | l, 0 => by simp
  | [], i + 1 => by simp
  | x :: l, i + 1 => by
    simp only [List.flatMap_cons, List.drop_succ_cons]
    rw [← nc_ f n hf l i, List.drop_append, hf, List.drop_of_length_le (by rw [hf, Nat.add_mul]; omega), List.nil_append]
    congr 1
    rw [Nat.add_mul]; omega
theorem nb_ {α : Type} (f : α → List Value) (n : Nat) (hf : ∀ x, (f x).length = n) : ∀ (l : List α) (i : Nat), (l.flatMap f).take (i * n) = (l.take i).flatMap f
  | l, 0 => by simp
  | [], i + 1 => by simp
  | x :: l, i + 1 => by
    simp only [List.flatMap_cons, List.take_succ_cons]
    rw [← nb_ f n hf l i, List.take_append, hf, List.take_of_length_le (by rw [hf, Nat.add_mul]; omega)]
    congr 2
    rw [Nat.add_mul]; omega
theorem bv_.slice {α : Type} {f : α → List Value} {n : Nat} (hf : ∀ x, (f x).length = n) {v : Vw} {ad : Option Addr} {l : List α} {cap : Nat} (h : bv_ v ad (l.flatMap f)) (hc : l.length ≤ cap) (i k : Nat) : bv_ v (Sx.sad ad cap i n) (((l.drop i).take k).flatMap f) := by
  refine h.sad _ (fun j x hj => ?_) (by rw [bp_ f n hf]; exact Nat.mul_le_mul_right _ hc)
  rw [← nb_ f n hf, ← nc_ f n hf, List.getElem?_take] at hj
  split at hj
  · rwa [List.getElem?_drop] at hj
  · cases hj
end Go.Sx
namespace Go.Vs
open Go Go.Sx
namespace Con
def pre (c : Con) (j : Nat) : Con := .mk 5 [] 0 0 (sad c.ad c.cap 0 5) (c.cap - 0) (c.parts.take j)
end Con
end Go.Vs
namespace Go.Sx
open Go
theorem bv_.rest {α : Type} {f : α → List Value} {n : Nat} (hf : ∀ x, (f x).length = n) {v : Vw} {ad : Option Addr} {l : List α} {cap : Nat} (h : bv_ v ad (l.flatMap f)) (hc : l.length ≤ cap) (i : Nat) : bv_ v (Sx.sad ad cap i n) ((l.drop i).flatMap f) := by
  have := h.slice hf hc i l.length
  rwa [List.take_of_length_le (by simp)] at this
end Go.Sx
namespace Go.Vs
open Go Go.Sx
namespace Ax
end Ax
end Go.Vs
namespace Go.Sx
open Go
section
variable {P : Program} {N : Nat} {v0 : Vw} {H0 : Hp} {R : Exit → Act → World → Prop} {K : List Kt} {fr : Fr} {H : Hp} {Γ : List Fct}
variable {ops : Array Oper} {l : List Oper} {d : Nat} {ty : TypeId} {ps : String} {af : Array Edge}
theorem iU_ {k : Act → World → Prop} {e : TypeId} {sz n : Nat} {sv : Value} {xs : List Value} {Hr F : Hp} (hr : aQ_ e sz sv n xs Hr) (hH : H.Perm (Hr ++ F))
    (h : ∀ ad cap, sv = .slice ad n cap → n ≤ cap → cap ≤ maxLen → Ok N v0 H0 k fr F (az_ ad xs :: Γ)) : Ok N v0 H0 k fr H Γ := by
  rcases hr.2 with ⟨h1, h2, h3⟩ | ⟨g, cap, cur, h1, h2, h3, h4, h5, h6⟩
  · subst h1 h2 h3
    have hx : xs = [] := List.eq_nil_of_length_eq_zero (by simpa using hr.1)
    refine aj_ hH (gq_ (Γ' := az_ none xs :: Γ) (fun v _ hg => ⟨.inl hx, hg⟩) (h none 0 rfl (Nat.le_refl _) (Nat.zero_le _)))
  · subst h1 h2
    refine gG_ (az_ (some ⟨g, 0, none⟩) xs) hH (fun v i1 i2 _ => .inr ⟨g, 0, cur, e, (0, 0), rfl, i1, i2, fun j x hj => ?_⟩) (h _ cap rfl h3 h4)
    rw [← h6, List.getElem?_take] at hj
    split at hj
    · rw [Nat.zero_add]; simpa using hj
    · cases hj
end
end Go.Sx
namespace Go.Vs
open Go Go.Sx
end Go.Vs
namespace Go.Vs
open Go Go.Sx
def bP_ (c : UInt8) : Str → List Str
  | [] => [[]]
  | b :: s => if b = c then [] :: bP_ c s else match bP_ c s with
    | h :: t => (b :: h) :: t
    | [] => [[b]]
def dN_ (c : UInt8) (s : Str) : Nat := s.countP (· == c)
theorem jR_ (c : UInt8) : ∀ s, bP_ c s ≠ []
  | [] => by simp [bP_]
  | b :: s => by
    simp only [bP_]
    split
    · simp
    · split <;> simp
theorem dR_ (c : UInt8) : ∀ s, (bP_ c s).length = dN_ c s + 1
  | [] => by simp [bP_, dN_]
  | b :: s => by
    have ih := dR_ c s
    simp only [bP_]
    by_cases h : b = c
    · simp only [h, if_true, List.length_cons, ih, dN_, List.countP_cons, beq_self_eq_true]
    · simp only [h, if_false]
      cases hs : bP_ c s with
      | nil => exact absurd hs (jR_ c s)
      | cons x t =>
        rw [hs] at ih
        simp only [List.length_cons] at ih ⊢
        simp only [dN_, List.countP_cons, beq_iff_eq, h, if_false, Nat.add_zero] at ih ⊢
        exact ih
theorem fi_ {c : UInt8} : ∀ {s : Str}, ixS c s = none → bP_ c s = [s]
  | [], _ => rfl
  | b :: s, h => by
    simp only [ixS] at h
    split at h
    · cases h
    · rename_i hb
      have hs : ixS c s = none := by simpa using h
      simp only [bP_, hb, if_false, fi_ hs]
theorem fh_ {c : UInt8} : ∀ {s : Str} {k : Nat}, ixS c s = some k → bP_ c s = s.take k :: bP_ c (s.drop (k + 1))
  | [], k, h => by simp [ixS] at h
  | b :: s, k, h => by
    simp only [ixS] at h
    split at h
    · rename_i hb
      simp only [Option.some.injEq] at h
      subst h
      simp [bP_, hb]
    · rename_i hb
      cases hx : ixS c s with
      | none => rw [hx] at h; simp at h
      | some j =>
        rw [hx] at h
        simp only [Option.map_some, Option.some.injEq] at h
        subst h
        simp only [bP_, hb, if_false, fh_ hx, List.take_succ_cons, List.drop_succ_cons]
theorem nV_ {c : UInt8} {s : Str} (h : ixS c s = none) : dN_ c s = 0 := by
  have := dR_ c s
  rw [fi_ h] at this
  simpa using this.symm
theorem kl_ {c : UInt8} {s : Str} {k : Nat} (h : ixS c s = some k) : dN_ c s = dN_ c (s.drop (k + 1)) + 1 := by
  have h1 := dR_ c s
  rw [fh_ h] at h1
  simp only [List.length_cons, dR_] at h1
  omega
theorem is_ (c : UInt8) (s : Str) : dN_ c s ≤ s.length := List.countP_le_length
def bf_ (s : Str) : Bool :=
  if s = [42] ∨ s = [33] then true
  else if 2 ≤ s.length ∧ s[0]? = some 123 ∧ s[s.length - 1]? = some 125 then bc_ ((s.drop 1).take (s.length - 1 - 1))
  else if 3 ≤ s.length ∧ s[0]? = some 60 ∧ s[s.length - 1]? = some 62 then true
  else bc_ s
def bY_ (s : Str) : Bool := decide ((bP_ 46 s).length ≤ 4) && !((bP_ 46 s).any fun r => !bc_ r)
def ct_ (used : Bool) (s : Str) (q : Str → Bool) : Bool := (used && q s) || (!used && (s == []))
def Pc.valid (p : Pc) : Bool :=
  if p.kind < 1 ∨ 9 < p.kind ∨ p.frm < -1 ∨ 1024 ≤ p.frm then false
  else if (nus p.kind).numbers = true ∧ (p.lo < -1099511627776 ∨ p.hi < p.lo ∨ 1099511627776 < p.hi) then false
  else if (nus p.kind).numbers = false ∧ (p.lo ≠ 0 ∨ p.hi ≠ 0) then false
  else ((((ct_ (nus p.kind).a p.a bf_ && ct_ (nus p.kind).b p.b bf_) && ct_ (nus p.kind).c p.c bf_) && ct_ (nus p.kind).r p.r (if (nus p.kind).numbers then bc_ else bY_)) && ct_ (nus p.kind).s p.s bY_) && ct_ (nus p.kind).t p.t bY_
structure Pc.sm (p : Pc) : Prop where
  a : p.a.length ≤ 17592186044414
  b : p.b.length ≤ 17592186044414
  c : p.c.length ≤ 17592186044414
  r : p.r.length ≤ 17592186044414
  s : p.s.length ≤ 17592186044414
  t : p.t.length ≤ 17592186044414
def Pc.smB (p : Pc) : Bool := Nat.ble p.a.length 17592186044414 && (Nat.ble p.b.length 17592186044414 && (Nat.ble p.c.length 17592186044414 && (Nat.ble p.r.length 17592186044414 && (Nat.ble p.s.length 17592186044414 && Nat.ble p.t.length 17592186044414))))
theorem Pc.sm_all {l : List Pc} (h : l.all Pc.smB = true) : ∀ p ∈ l, p.sm := fun p hp => by
  have := List.all_eq_true.1 h p hp
  simp only [Pc.smB, Bool.and_eq_true, Nat.ble_eq] at this
  exact ⟨this.1, this.2.1, this.2.2.1, this.2.2.2.1, this.2.2.2.2.1, this.2.2.2.2.2⟩
def bM_ (l : List Pc) : Int := if 16384 < l.length then 2 else if l.all Pc.valid then 0 else 1
end Go.Vs
namespace Go.Sx
open Go
section
variable {H r r' d t : Hp} {b : Nat × Obj} {O : Hp}
theorem I_ : H.Perm ([] ++ H) := .refl _
theorem i_ : (b :: r).Perm ([b] ++ r) := .refl _
theorem E_ : (O ++ r).Perm (O ++ r) := .refl _
theorem f_ (h : H.Perm (t ++ r)) : (b :: H).Perm (t ++ (b :: r)) := (h.cons b).trans List.perm_middle.symm
theorem s_ (h : H.Perm (t ++ r)) : (O ++ H).Perm (t ++ (O ++ r)) := (List.Perm.append_left O h).trans (by
  rw [← List.append_assoc, ← List.append_assoc]
  exact List.Perm.append_right r List.perm_append_comm)
theorem m_ (h1 : H.Perm ([b] ++ r)) (h2 : r.Perm (d ++ r')) : H.Perm ((b :: d) ++ r') := h1.trans (h2.cons b)
theorem O_ (h1 : H.Perm (O ++ r)) (h2 : r.Perm (d ++ r')) : H.Perm ((O ++ d) ++ r') := by
  rw [List.append_assoc]
  exact h1.trans (List.Perm.append_left O h2)
theorem aD_ : H.Perm (H ++ []) := by rw [List.append_nil]
end
theorem hl_ : ∀ xs : List (List UInt8), xs.flatMap aO_ = xs.map str
  | [] => rfl
  | x :: xs => by simp only [List.flatMap_cons, hl_ xs, List.map_cons]; rfl
def gZ_ (n : Int) : List Value := [.int .i64 n]
theorem ev_ (n : Int) : (gZ_ n).length = 1 := rfl
section
variable {P : Program} {N : Nat} {v0 : Vw} {H0 : Hp} {R : Exit → Act → World → Prop} {K : List Kt} {fr : Fr} {H : Hp} {Γ : List Fct}
theorem bz_ {k : Act → World → Prop} {b : Nat} {cs : List Value} {T : TypeId} {fz : Nat × Nat} {F : Hp} (xs : List Value) (hH : H.Perm ([(b, .cells cs.toArray T fz)] ++ F)) (hx : cs = xs) (h : Ok N v0 H0 k fr F (az_ (some ⟨b, 0, none⟩) xs :: Γ)) : Ok N v0 H0 k fr H Γ :=
  gG_ (az_ (some ⟨b, 0, none⟩) xs) hH (fun v h1 h2 _ => .inr ⟨b, 0, cs.toArray, T, fz, rfl, h1, h2, fun j x hj => by rw [Nat.zero_add, hx]; simpa using hj⟩) h
theorem bG_ {v : Vw} (h : v.sat H) : v.sat [] := ⟨(fun _ h => by cases h), (by simp), h.lt⟩
variable {ops : Array Oper} {l : List Oper} {d : Nat} {ty : TypeId} {ps : String} {af : Array Edge}
theorem mH_ {x y : Operand} {t t' : TypeId} {m n : Int} (hx : Fr.ev fr x = some (.int .i64 m)) (hy : Fr.ev fr y = some (.int .i64 n)) :
    Yld P N fr H Γ (.call ⟨.builtin .min, #[x, y], #[t, t']⟩) ty (.int .i64 (if n < m then n else m)) :=
  fun a v h1 h2 _ _ _ _ => by simp [execOp, resolve, invoke, builtin, Builtin.min_, Builtin.min2, h1.ev hx, h1.ev hy]
theorem pG_ {x y : Operand} {t t' : TypeId} {m n : Int} (hx : Fr.ev fr x = some (.int .i64 m)) (hy : Fr.ev fr y = some (.int .i64 n)) :
    Yld P N fr H Γ (.call ⟨.builtin .max, #[x, y], #[t, t']⟩) ty (.int .i64 (if m < n then n else m)) :=
  fun a v h1 h2 _ _ _ _ => by simp [execOp, resolve, invoke, builtin, Builtin.max_, Builtin.max2, h1.ev hx, h1.ev hy]
theorem pF_ {t t' : TypeId} {x y : Operand} {m n : Int} (hx : Fr.ev fr x = some (.int .i64 m)) (hy : Fr.ev fr y = some (.int .i64 n)) (hn : n ≠ 0) (hw : IntKind.wrap .i64 (m.tdiv n) = m.tdiv n) :
    Yld P N fr H Γ (.binOp .quo t x y t') ty (.int .i64 (m.tdiv n)) :=
  fun a v h1 _ _ _ _ _ => by simp [execOp, h1.ev hx, h1.ev hy, eqGuard, binOp, Op.intDiv, hn, hw]
theorem qg_ (z : Value) (n : Nat) : madeCells #[z] (n * 1) = (List.replicate n z).toArray := by
  unfold madeCells
  apply Array.ext
  · simp
  · intro i h1 h2
    simp at h1 h2 ⊢
    have : i % 1 = 0 := Nat.mod_one i
    simp [this]
theorem nF_ {t e : TypeId} {x y : Operand} {n by' : Nat} {z : Value} (ht : P.underlying t = some (.slice e)) (hi : (P.info? e).map (fun i => (i.zero, i.size, i.bytes)) = some (some z, 1, by')) (hz : z.cells = #[z]) (hx : Fr.ev fr x = some (.int .i64 (n : Int))) (hy : Fr.ev fr y = some (.int .i64 (n : Int)))
    (hb : by' * n ≤ 281474976710656) (h63 : n ≤ 9223372036854775807) (hN : Nat.blt d N = true)
    (hk : ∀ b, Ops P R N v0 H0 ops l K ((d, .slice (some ⟨b, 0, none⟩) n n) :: fr) ((b, .cells (List.replicate n z).toArray e (0, 0)) :: H) Γ) : Ops P R N v0 H0 ops (⟨some d, .makeSlice t x y, ty, ps, af, none⟩ :: l) K fr H Γ := by
  refine fY_ (x := fun b => .slice (some ⟨b, 0, none⟩) n n) hN (fun a v h1 _ _ => ?_) hk
  cases h : P.info? e with
  | none => rw [h] at hi; cases hi
  | some i =>
    rw [h] at hi
    simp only [Option.map_some, Option.some.injEq, Prod.mk.injEq] at hi
    have hb' : (i.bytes : Int) * (n : Int) ≤ 281474976710656 := by
      rw [hi.2.2]
      have h : ((by' * n : Nat) : Int) ≤ 281474976710656 := by omega
      rwa [Int.natCast_mul] at h
    have hr := run_make (P := P) v.w t e i z ht h hi.1 .i64 .i64 (n : Int) (n : Int) (by omega) (Int.le_refl _) hb' (by omega)
    rw [hi.2.1, hz, Int.toNat_natCast, qg_] at hr
    simp only [execOp, h1.ev hx, h1.ev hy]
    simp [hr]
theorem iR_ {t : TypeId} {x y : Operand} {b off : Nat} (i : Nat) {l1 l2 : List Value} {z u : Value} {T : TypeId} (hs : ∀ w, (sizeOf t).run P w = .ok 1 w)
    (hx : Fr.ev fr x = some (.pointer (some ⟨b, off, none⟩))) (hy : Fr.ev fr y = some u) (hi : H[i]? = some (b, .cells (l1 ++ z :: l2).toArray T (0, 0))) (ho : off = l1.length) (hu : u.cells = #[u]) (h1c : u.oneCell' = true)
    (hk : Ops P R N v0 H0 ops l K fr (H.set i (b, .cells (l1 ++ u :: l2).toArray T (0, 0))) Γ) :
    Ops P R N v0 H0 ops (⟨none, .store t x y, ty, ps, af, none⟩ :: l) K fr H Γ := by
  subst ho
  refine Q_ i hs hx hy hi (by rw [hu]; rfl) (by simp) (by rw [hu]; simpa using h1c) ?_
  have e : (((l1 ++ z :: l2).toArray.toList.take l1.length ++ u.cells.toList ++ (l1 ++ z :: l2).toArray.toList.drop (l1.length + 1)).toArray) = (l1 ++ u :: l2).toArray := by
    rw [hu]
    have e2 : (l1 ++ z :: l2).drop (l1.length + 1) = l2 := by
      rw [← List.drop_drop]; simp
    simp [e2]
  rw [e]
  exact hk
theorem li_ {b cap n : Nat} : sad (some ⟨b, 0, none⟩) cap 0 n = some ⟨b, 0, none⟩ := by unfold sad; split <;> simp [cU_]
end
end Go.Sx
namespace Go.Sx
open Go
section
variable {P : Program} {N : Nat} {v0 : Vw} {H0 : Hp} {R : Exit → Act → World → Prop} {K : List Kt} {fr : Fr} {H : Hp} {Γ : List Fct}
variable {ops : Array Oper} {l : List Oper} {d : Nat} {ty : TypeId} {ps : String} {af : Array Edge}
theorem aI_ {x y : Operand} {t e : TypeId} {sz by' n m c : Nat} {sv : Value} {xs news : List Value} {Hr F : Hp} {ad : Option Addr} (he : Elt P t e sz by') (hrow : aQ_ e sz sv n xs Hr)
    (hx : Fr.ev fr x = some sv) (hy : Fr.ev fr y = some (.slice ad m c)) (hz : ad = none → c = 0) (hmc : m ≤ c) (hH : H.Perm (Hr ++ F)) (hl : news.length = m * sz) (hnews : ∀ v, v.sat H → bd_ Γ v → bv_ v ad news) (h1c : ∀ u ∈ news, u.oneCell' = true)
    (h63 : n + m ≤ maxLen) (hb : (n + m) * by' ≤ 140737488355328) (hN : Nat.blt d N = true)
    (hk : ∀ sv' Hr', aQ_ e sz sv' (n + m) (xs ++ news) Hr' → Ops P R N v0 H0 ops l K ((d, sv') :: fr) (Hr' ++ F) Γ) :
    Ops P R N v0 H0 ops (⟨some d, .call ⟨.builtin .append, #[x, y], #[t, t]⟩, ty, ps, af, none⟩ :: l) K fr H Γ := by
  cases ad with
  | none =>
    obtain rfl := hz rfl
    obtain rfl : m = 0 := by omega
    obtain rfl : news = [] := List.eq_nil_of_length_eq_zero (by simpa using hl)
    refine cZ_ rfl fun a v h1 h2 h3 h4 => ?_
    obtain ⟨i, z, hi, hz, es, eb, ez⟩ := he.info
    have g := h2.perm hH
    have ho := hrow.owns g
    have hr := run_append_owned_none (P := P) (w := v.w) 0 t ty e i sz he.und hi sv n xs ho
    unfold Oper.wp execOp
    simp only [resolve, invoke, builtin, Sem.run_bind, Sem.run_pure, Result.andThen_ok, List.map_toArray, List.map_cons, List.map_nil, h1.ev hx, h1.ev hy, hr]
    have T : v.to H v (Hr ++ F) := (Vw.to.refl v (Hr ++ F)).permL hH.symm
    exact hk sv Hr (by simpa using hrow) _ v (h1.put hN) g (h3.trans T) h4
  | some a0 =>
    refine bi_ he hrow hx hy hH hl (fun v h2 h4 j u hj => ?_) h1c h63 hb hN hk
    rcases hnews v h2 h4 with h | ⟨b, off, arr, T, fz, h1, _, h3, h5⟩
    · rw [h] at hj; simp at hj
    · rw [Option.some.injEq] at h1
      subst h1
      have := h5 j u hj
      rw [cU_]
      simp [World.cell?, h3, this]
theorem cF_ {t e : TypeId} {sz : Nat} (hu : ∀ w, (underlying t).run P w = .ok (.slice e) w) (hs : ∀ w, (sizeOf e).run P w = .ok sz w) (hN : Nat.blt d N = true)
    (hk : ∀ b, Ops P R N v0 H0 ops l K ((d, .slice (some ⟨b, 0, none⟩) 0 0) :: fr) ((b, .cells #[] e (0, 0)) :: H) Γ) : Ops P R N v0 H0 ops (⟨some d, .buildSlice t 0 #[], ty, ps, af, none⟩ :: l) K fr H Γ :=
  fY_ (x := fun b => .slice (some ⟨b, 0, none⟩) 0 0) hN (fun a v h1 h2 h4 => by
    simp only [execOp, Instr.buildSlice, Sem.run_bind, hu, Result.andThen_ok, hs, List.map_toArray]
    rw [if_neg (by omega), if_pos (by omega), Nat.zero_mul, show Array.range 0 = #[] by simp]
    simp only [Sem.run_bind, Sem.run_pure, Result.andThen_ok, List.map_nil, List.map_toArray, List.toList_toArray, Instr.fill]
    rfl) hk
theorem bk_ {k : Act → World → Prop} {e : TypeId} {sz n : Nat} {sv : Value} {xs : List Value} {Hr F : Hp} (hr : aQ_ e sz sv n xs Hr) (hH : H.Perm (Hr ++ F))
    (h : ∀ ad cap, sv = .slice ad n cap → n ≤ cap → cap ≤ maxLen → (ad = none → cap = 0) → Ok N v0 H0 k fr F (az_ ad xs :: Γ)) : Ok N v0 H0 k fr H Γ := by
  refine iU_ hr hH fun ad cap e1 e2 e3 => h ad cap e1 e2 e3 fun e4 => ?_
  rcases hr.2 with ⟨h1, _, _⟩ | ⟨g, c, cur, h1, _⟩
  · rw [h1] at e1
    simp only [Value.slice.injEq] at e1
    exact e1.2.2.symm
  · rw [h1, e4] at e1
    simp at e1
theorem dp_ {cap i n : Nat} {ad : Option Addr} (h : sad ad cap i n = none) : ad = none := by
  unfold sad at h
  split at h
  · exact h
  · simpa using h
end
end Go.Sx
namespace Go.Sx
open Go
section
variable {P : Program} {N : Nat} {fr : Fr} {H : Hp} {Γ : List Fct} {ty : TypeId} {e : TypeId} {sz n : Nat} {sv : Value} {xs : List Value} {Hr F : Hp}
theorem fk_ {O : Hp} : List.Perm (O ++ []) O := by rw [List.append_nil]
theorem bj_ {O Q : Hp} : List.Perm (Q ++ O) (O ++ Q) := List.perm_append_comm
theorem S_ {O : Hp} {b : Nat × Obj} : List.Perm (b :: O) (O ++ [b]) := List.perm_append_comm (l₁ := [b])
theorem ht_ {H : Hp} : List.Perm ([] ++ H) H := .refl _
def svB : Value → Nat
  | .slice (some a) _ _ => a.block
  | _ => 0
theorem mc_ {x : Operand} {t e' : TypeId} (hrow : aQ_ e sz sv n xs Hr) (hu : ∀ w, (underlying t).run P w = .ok (.slice e') w) (hx : Fr.ev fr x = some sv) : Yld P N fr H Γ (.call ⟨.builtin .len, #[x], #[t]⟩) ty (.int .i64 (n : Int)) := by
  rcases hrow.2 with ⟨rfl, rfl, _⟩ | ⟨g, cap, cur, rfl, _⟩
  · exact am_ hu hx
  · exact am_ hu hx
theorem jI_ {x y : Operand} {t e' : TypeId} {k : IntKind} {i : Int} (hrow : aQ_ e sz sv n xs Hr) (hu : ∀ w, (underlying t).run P w = .ok (.slice e') w) (hs : ∀ w, (sizeOf e').run P w = .ok sz w) (hx : Fr.ev fr x = some sv) (hy : Fr.ev fr y = some (.int k i)) (h0 : 0 ≤ i) (hl : i < n) :
    Yld P N fr H Γ (.indexAddr t x y) ty (.pointer (some ⟨svB sv, i.toNat * sz, none⟩)) := by
  rcases hrow.2 with ⟨_, h2, _⟩ | ⟨g, cap, cur, rfl, _⟩
  · omega
  · have := fw_ (P := P) (N := N) (H := H) (Γ := Γ) (ty := ty) hu hs hx hy h0 hl
    rw [Nat.zero_add] at this
    exact this
theorem hJ_ {x : Operand} {t : TypeId} {k : Nat} {us : List Value} (hrow : aQ_ e sz sv n xs Hr) (hH : H.Perm (Hr ++ F)) (ha : ∀ w, (isAgg t).run P w = .ok true w) (hs : ∀ w, (sizeOf t).run P w = .ok sz w) (hx : Fr.ev fr x = some (.pointer (some ⟨svB sv, k, none⟩)))
    (hn : us.length = sz) (hp : 0 < sz) (hu : ∀ j y, us[j]? = some y → xs[k + j]? = some y) : Yld P N fr H Γ (.load t x) ty (.agg us.toArray) := by
  rcases hrow.2 with ⟨_, h2, _⟩ | ⟨g, cap, cur, rfl, rfl, h3, h4, h5, h6⟩
  · subst h2
    have h1 := hrow.1
    have : xs = [] := List.eq_nil_of_length_eq_zero (by simpa using h1)
    subst this
    have := hu 0 us[0] (List.getElem?_eq_getElem (by omega))
    simp at this
  · refine gA_ hx fun v h2 _ => dn_ ha hs hn fun j y hj => ?_
    have hb := ((h2.perm hH).own _ (List.mem_append_left _ List.mem_cons_self)).1
    have hc := hu j y hj
    rw [← h6, List.getElem?_take] at hc
    split at hc
    · have hc' : cur[k + j]? = some y := by simpa using hc
      simp only [svB, World.cell?, hb, Option.isSome_none, Bool.false_eq_true, if_false]
      exact hc'
    · cases hc
end
end Go.Sx
namespace Go.Sx
open Go
section
variable {P : Program} {N : Nat} {fr : Fr} {H : Hp} {Γ : List Fct} {ty : TypeId} {e : TypeId} {sz n : Nat} {sv : Value} {xs : List Value} {Hr F : Hp}
theorem ho_ (h : aQ_ e sz sv n xs Hr) : sv.cells = #[sv] ∧ sv.oneCell' = true := by
  rcases h.2 with ⟨rfl, _⟩ | ⟨g, cap, cur, rfl, _⟩ <;> exact ⟨rfl, rfl⟩
theorem fX_ {v0 : Vw} {H0 : Hp} {R : Exit → Act → World → Prop} {K : List Kt} {ops : Array Oper} {l : List Oper} {ps : String} {af : Array Edge} {t : TypeId} {x y : Operand} {b off : Nat} (i : Nat) {cur : Array Value} {T : TypeId} (hrow : aQ_ e sz sv n xs Hr) (hs : ∀ w, (sizeOf t).run P w = .ok 1 w)
    (hx : Fr.ev fr x = some (.pointer (some ⟨b, off, none⟩))) (hy : Fr.ev fr y = some sv) (hi : H[i]? = some (b, .cells cur T (0, 0))) (hf : Nat.ble (off + 1) cur.size = true)
    (hk : Ops P R N v0 H0 ops l K fr (H.set i (b, .cells (cur.toList.take off ++ [sv] ++ cur.toList.drop (off + 1)).toArray T (0, 0))) Γ) : Ops P R N v0 H0 ops (⟨none, .store t x y, ty, ps, af, none⟩ :: l) K fr H Γ :=
  Q_ i hs hx hy hi (by rw [(ho_ hrow).1]; rfl) hf (by rw [(ho_ hrow).1]; simp [(ho_ hrow).2]) (by rw [(ho_ hrow).1]; exact hk)
theorem hg_ {x y : Operand} {t t' : TypeId} {m k : Int} (hx : Fr.ev fr x = some (.int .i64 m)) (hy : Fr.ev fr y = some (.int .i64 k)) : Yld P N fr H Γ (.call ⟨.builtin .max, #[x, y], #[t, t']⟩) ty (.int .i64 (max m k)) := by
  have e : (if m < k then k else m) = max m k := by split <;> omega
  exact e ▸ pG_ hx hy
theorem gj_ {x y : Operand} {t t' : TypeId} {m k : Int} (hx : Fr.ev fr x = some (.int .i64 m)) (hy : Fr.ev fr y = some (.int .i64 k)) : Yld P N fr H Γ (.call ⟨.builtin .min, #[x, y], #[t, t']⟩) ty (.int .i64 (min m k)) := by
  have e : (if k < m then k else m) = min m k := by split <;> omega
  exact e ▸ mH_ hx hy
theorem dD_ {b : Nat} {cs : List Value} {T : TypeId} {fz : Nat × Nat} (hp : H.Perm ([(b, .cells cs.toArray T fz)] ++ F)) : ∀ v : Vw, v.sat H → bd_ Γ v → ∀ j u, cs[j]? = some u → v.w.cell? ((⟨b, 0, none⟩ : Addr).add j) = some u := by
  intro v h1 h2 j u hj
  exact cy_ (Γ := Γ) 0 rfl v (h1.perm hp) h2 j u hj
theorem aK_ {α : Type} {f : α → List Value} (hf : ∀ x, (f x).all Value.oneCell' = true) {l : List α} {u : Value} (h : u ∈ l.flatMap f) : u.oneCell' = true := by
  obtain ⟨y, _, hy⟩ := List.mem_flatMap.1 h
  exact List.all_eq_true.1 (hf y) u hy
end
end Go.Sx
namespace Go.Sx
open Go
section
variable {P : Program} {N : Nat} {v0 : Vw} {H0 : Hp} {R : Exit → Act → World → Prop} {K : List Kt} {fr : Fr} {H F : Hp} {Γ : List Fct} {ops : Array Oper} {l : List Oper} {d : Nat} {ty : TypeId} {ps : String} {af : Array Edge} {e : TypeId} {sz n : Nat} {sv : Value} {xs : List Value} {Hr : Hp}
inductive ORow (e : TypeId) (sz : Nat) : Value → Nat → List Value → Hp → Prop
  | row {sv : Value} {n : Nat} {xs : List Value} {Hr : Hp} (h : aQ_ e sz sv n xs Hr) : ORow e sz sv n xs Hr
  | cut {g k n cap : Nat} {pre xs : List Value} {Hr : Hp} (hp : pre.length = k * sz) (h : aQ_ e sz (.slice (some ⟨g, 0, none⟩) (k + n) (k + cap)) (k + n) (pre ++ xs) Hr) : ORow e sz (.slice (some ⟨g, k * sz, none⟩) n cap) n xs Hr
  | out {g k : Nat} {Hr : Hp} : ORow e sz (.slice (some ⟨g, k * sz, none⟩) 0 0) 0 [] Hr
theorem ORow.len (h : ORow e sz sv n xs Hr) : xs.length = n * sz := by
  cases h with
  | row h => exact h.1
  | cut hp h => have := h.1; rw [List.length_append, hp, Nat.add_mul] at this; omega
  | out => simp
theorem ORow.form (h : ORow e sz sv n xs Hr) : ∃ ad cap, sv = .slice ad n cap ∧ n ≤ cap ∧ (ad = none → cap = 0) := by
  cases h with
  | row h =>
    rcases h.2 with ⟨rfl, rfl, _⟩ | ⟨g, cap, cur, rfl, _, h3, _⟩
    · exact ⟨_, _, rfl, Nat.le_refl _, fun _ => rfl⟩
    · exact ⟨_, _, rfl, h3, fun q => by cases q⟩
  | cut hp h =>
    rcases h.2 with ⟨h1, _⟩ | ⟨g, cap, cur, h1, _, h3, _⟩
    · cases h1
    · simp only [Value.slice.injEq] at h1; obtain ⟨_, _, rfl⟩ := h1; exact ⟨_, _, rfl, by omega, fun q => by cases q⟩
  | out => exact ⟨_, _, rfl, Nat.le_refl _, fun q => by cases q⟩
theorem od_ {x : Operand} {t e' : TypeId} (hrow : ORow e sz sv n xs Hr) (hu : ∀ w, (underlying t).run P w = .ok (.slice e') w) (hx : Fr.ev fr x = some sv) : Yld P N fr H Γ (.call ⟨.builtin .len, #[x], #[t]⟩) ty (.int .i64 (n : Int)) := by
  obtain ⟨ad, cap, rfl, _⟩ := hrow.form
  exact am_ hu hx
def svO : Value → Nat
  | .slice (some a) _ _ => a.off
  | _ => 0
theorem pI_ {x y : Operand} {t e' : TypeId} {k : IntKind} {i : Int} (hrow : ORow e sz sv n xs Hr) (hu : ∀ w, (underlying t).run P w = .ok (.slice e') w) (hs : ∀ w, (sizeOf e').run P w = .ok sz w) (hx : Fr.ev fr x = some sv) (hy : Fr.ev fr y = some (.int k i)) (h0 : 0 ≤ i) (hl : i < n) :
    Yld P N fr H Γ (.indexAddr t x y) ty (.pointer (some ⟨svB sv, svO sv + i.toNat * sz, none⟩)) := by
  cases hrow with
  | row h =>
    have := jI_ (P := P) (N := N) (H := H) (Γ := Γ) (ty := ty) h hu hs hx hy h0 hl
    rcases h.2 with ⟨_, h2, _⟩ | ⟨g, cap, cur, rfl, _⟩
    · omega
    · simpa [svO] using this
  | cut hp h => exact fw_ (P := P) (N := N) (H := H) (Γ := Γ) (ty := ty) hu hs hx hy h0 hl
  | out => omega
theorem pH_ {x : Operand} {t : TypeId} {k : Nat} {us : List Value} (hrow : ORow e sz sv n xs Hr) (hH : H.Perm (Hr ++ F)) (ha : ∀ w, (isAgg t).run P w = .ok true w) (hs : ∀ w, (sizeOf t).run P w = .ok sz w) (hx : Fr.ev fr x = some (.pointer (some ⟨svB sv, svO sv + k, none⟩)))
    (hn : us.length = sz) (hp : 0 < sz) (hu : ∀ j y, us[j]? = some y → xs[k + j]? = some y) : Yld P N fr H Γ (.load t x) ty (.agg us.toArray) := by
  cases hrow with
  | row h =>
    refine hJ_ h hH ha hs ?_ hn hp hu
    rcases h.2 with ⟨rfl, h2, _⟩ | ⟨g, cap, cur, rfl, _⟩
    · rw [hx]; simp [svO]
    · rw [hx]; simp [svO]
  | @cut g k0 n cap pre xs Hr hp' h =>
    refine hJ_ (k := k0 * sz + k) h hH ha hs (by rw [hx]; rfl) hn hp fun j y hj => ?_
    rw [List.getElem?_append_right (by omega), hp', show k0 * sz + k + j - k0 * sz = k + j by omega]
    exact hu j y hj
  | out =>
    have := hu 0 us[0] (List.getElem?_eq_getElem (by omega))
    simp at this
theorem oP_ {x y : Operand} {t e' : TypeId} {kl : IntKind} {i : Nat} (hrow : ORow e sz sv n xs Hr) (hu : ∀ w, (underlying t).run P w = .ok (.slice e') w) (hs : ∀ w, (sizeOf e').run P w = .ok sz w) (hx : Fr.ev fr x = some sv) (hy : Fr.ev fr y = some (.int kl (i : Int))) (hi : i ≤ n) (hN : Nat.blt d N = true)
    (hk : ∀ sv', ORow e sz sv' (n - i) (xs.drop (i * sz)) Hr → Ops P R N v0 H0 ops l K ((d, sv') :: fr) H Γ) : Ops P R N v0 H0 ops (⟨some d, .slice t x (some y) none none, ty, ps, af, none⟩ :: l) K fr H Γ := by
  have hlen := hrow.len
  obtain ⟨ad, cap, he, hnc, _⟩ := hrow.form
  have hx2 : Fr.ev fr x = some (.slice ad n cap) := by rw [hx, he]
  refine a_ (cj_ (i := i) (j := n) (kl := kl) (kh := .i64) hu hs hx2 hy rfl hi hnc) hN ?_
  refine hk _ ?_
  cases hrow with
  | @row sv n xs Hr h =>
    rcases h.2 with ⟨rfl, rfl, rfl⟩ | ⟨g, cap', cur, rfl, _, h3, _⟩
    · obtain rfl : i = 0 := by omega
      simp only [Value.slice.injEq] at he
      obtain ⟨rfl, _, rfl⟩ := he
      have : xs = [] := List.eq_nil_of_length_eq_zero (by simpa using hlen)
      subst this
      simp only [sad, List.drop_nil, Nat.sub_self]
      exact .row h
    · simp only [Value.slice.injEq] at he
      obtain ⟨rfl, _, rfl⟩ := he
      by_cases hc : cap' = i
      · subst hc
        have : n = cap' := by omega
        subst this
        simp only [sad, if_true, Nat.sub_self]
        rw [List.drop_eq_nil_of_le (by omega)]
        have := ORow.out (e := e) (sz := sz) (g := g) (k := 0) (Hr := Hr)
        simpa using this
      · simp only [sad, hc, if_false, Option.map_some, cU_, Nat.zero_add]
        refine .cut (pre := xs.take (i * sz)) (by rw [List.length_take, hlen]; exact Nat.min_eq_left (Nat.mul_le_mul_right _ hi)) ?_
        rw [List.take_append_drop, show i + (n - i) = n by omega, show i + (cap' - i) = cap' by omega]
        exact h
  | @cut g k n cap0 pre xs Hr hp h =>
    simp only [Value.slice.injEq] at he
    obtain ⟨rfl, _, rfl⟩ := he
    by_cases hc : cap0 = i
    · subst hc
      have : n = cap0 := by omega
      subst this
      simp only [sad, if_true, Nat.sub_self]
      rw [List.drop_eq_nil_of_le (by omega)]
      exact .out
    · simp only [sad, hc, if_false, Option.map_some, cU_]
      rw [← Nat.add_mul]
      refine .cut (pre := pre ++ xs.take (i * sz)) (by rw [List.length_append, List.length_take, hlen, hp, Nat.min_eq_left (Nat.mul_le_mul_right _ hi), Nat.add_mul]) ?_
      rw [List.append_assoc, List.take_append_drop, show k + i + (n - i) = k + n by omega, show k + i + (cap0 - i) = k + cap0 by omega]
      exact h
  | @out g k Hr =>
    obtain rfl : i = 0 := by omega
    simp only [Value.slice.injEq] at he
    obtain ⟨rfl, _, rfl⟩ := he
    simp only [sad, if_true, Nat.sub_self, List.drop_nil]
    exact .out
theorem Vw.to.more {v v' : Vw} {H' : Hp} (h : v.to F v' H') : v.to (Hr ++ F) v' H' where
  os := h.os
  tape := h.tape
  output := h.output
  size := h.size
  block := fun b hb hn => h.block b hb fun hm => hn (by rw [List.map_append]; exact List.mem_append_right _ hm)
  imUp := h.imUp
  imNew := fun b hb => by
    rw [List.map_append]
    rcases h.imNew b hb with q | q | q
    · exact .inl q
    · exact .inr (.inl (List.mem_append_right _ q))
    · exact .inr (.inr q)
  hNew := fun b hb => by
    rw [List.map_append]
    rcases h.hNew b hb with q | q
    · exact .inl (List.mem_append_right _ q)
    · exact .inr q
  sl := h.sl
  dr := h.dr
theorem Vw.sat.subB {v : Vw} (h : v.sat (Hr ++ F)) : v.sat F :=
  ⟨fun x hx => h.own x (List.mem_append_right _ hx), by have := h.nodup; rw [List.map_append, List.nodup_append] at this; exact this.2.1, h.lt⟩
theorem fT_ {v : Vw} {a : Addr} {news : List Value} (h : bv_ v (some a) news) : ∀ j u, news[j]? = some u → v.w.cell? (a.add j) = some u := fun j u hj => by
  rcases h with h | ⟨b, off, arr, T, fz, h1, _, h3, h5⟩
  · rw [h] at hj; simp at hj
  · rw [Option.some.injEq] at h1
    subst h1
    have := h5 j u hj
    rw [cU_]
    simp [World.cell?, h3, this]
theorem iE_ (w : World) (t ty e : TypeId) (i : TypeInfo) (ht : P.underlying t = some (.slice e)) (hi : P.info? e = some i)
    (g off sLen sCap : Nat) (cur : Array Value) (hg : w.heap[g]? = some (.cells cur e (0, 0)))
    (a : Addr) (m c : Nat) (news : List Value) (hl : news.length = m * i.size) (hnews : ∀ j u, news[j]? = some u → w.cell? (a.add j) = some u) (h1 : ∀ u ∈ news, u.oneCell' = true)
    (hroom : sLen + m ≤ sCap) (hfit : off + sLen * i.size + news.length ≤ cur.size) :
    (Builtin.append_ #[t, t] ty #[.slice (some ⟨g, off, none⟩) sLen sCap, .slice (some a) m c]).run P w =
      .ok (.slice (some ⟨g, off, none⟩) (sLen + m) sCap) (w.setRow g (cur.toList.take (off + sLen * i.size) ++ news ++ cur.toList.drop (off + sLen * i.size + news.length)).toArray) := by
  have hf := run_firstCells_some (P := P) w i.size m a m c news hl hnews
  have hst := run_storeCells_at P g (off + sLen * i.size) e news 0 cur w hg (by simpa using hfit) h1
  simp only [Nat.add_zero] at hst
  simp [Builtin.append_, run_underlying ht, sizeOf, typeInfo, hi, Builtin.lenOf, hroom, hf, Addr.add_lit, hst]
theorem jk_ {v : Vw} {t ty' : TypeId} {by' m c cap : Nat} {b a : Addr} {news : List Value} (he : Elt P t e sz by') (hs : v.sat (Hr ++ F)) (hlo : xs.length = n * sz) (bd_ : ∀ j u, xs[j]? = some u → v.w.cell? (b.add j) = some u) (hl : news.length = m * sz) (hnews : ∀ j u, news[j]? = some u → v.w.cell? (a.add j) = some u)
    (hg : cap < n + m) (h63 : n + m ≤ maxLen) (hb : (n + m) * by' ≤ 140737488355328) :
    ∃ v' w' Hr', (Builtin.append_ #[t, t] ty' #[.slice (some b) n cap, .slice (some a) m c]).run P v.w = .ok v' w' ∧ aQ_ e sz v' (n + m) (xs ++ news) Hr' ∧ (⟨v.im, w', v.sl⟩ : Vw).sat (Hr' ++ F) ∧ v.to (Hr ++ F) ⟨v.im, w', v.sl⟩ (Hr' ++ F) := by
  obtain ⟨i, z, hi, hz, es, eb, ez⟩ := he.info
  subst es eb
  have hsmall : n + m ≤ 9223372036854775807 := by simp only [maxLen] at h63; omega
  have hr := run_append_grow (P := P) v.w t ty' e i z he.und hi hz b n cap xs hlo bd_ a m c news hl hnews hg (by omega) (growslice_fits hg hb)
  obtain ⟨v', w', hr', q1, q2⟩ := run_append_arg_grows (P := P) v.w t ty' e i z i.size i.bytes he.und hi hz rfl rfl ez he.pos b n cap xs hlo bd_ a m c news hl hnews hg h63 hb
  have q0 : w'.ownsRow 0 e i.size v' (n + m) (xs ++ news) := ⟨q1.1, q1.2.imp id fun ⟨g, cap, cur, h1, _, h3⟩ => ⟨g, cap, cur, h1, Nat.zero_le _, h3⟩⟩
  have hd : v.w.drawn ≤ w'.drawn := by
    rw [hr] at hr'
    cases hr'
    simp
  have hsame : ∀ g, v'.ownBlock = some g → (Value.slice none 0 0).ownBlock = some g ∨ v.w.heap.size ≤ g := fun g hg' => by
    rw [hr] at hr'
    cases hr'
    simp only [Value.ownBlock, Option.some.injEq] at hg'
    exact .inr (by omega)
  obtain ⟨Hr', k1, k2, k3⟩ := hV_ (F := F) (aQ_.nil e i.size) (by simpa using hs.subB) q0 q2 hd hsame
  exact ⟨v', w', Hr', hr', k1, k2, by simpa using Vw.to.more (Hr := Hr) k3⟩
theorem ib_ {x y : Operand} {t : TypeId} {by' m c : Nat} {news : List Value} {ad : Option Addr} (he : Elt P t e sz by') (hrow : ORow e sz sv n xs Hr)
    (hx : Fr.ev fr x = some sv) (hy : Fr.ev fr y = some (.slice ad m c)) (hz : ad = none → c = 0) (hmc : m ≤ c) (hH : H.Perm (Hr ++ F)) (hl : news.length = m * sz) (hnews : ∀ v, v.sat H → bd_ Γ v → bv_ v ad news) (h1c : ∀ u ∈ news, u.oneCell' = true)
    (h63 : n + m ≤ maxLen) (hb : (n + m) * by' ≤ 140737488355328) (hN : Nat.blt d N = true)
    (hk : ∀ sv' Hr', ORow e sz sv' (n + m) (xs ++ news) Hr' → Ops P R N v0 H0 ops l K ((d, sv') :: fr) (Hr' ++ F) Γ) :
    Ops P R N v0 H0 ops (⟨some d, .call ⟨.builtin .append, #[x, y], #[t, t]⟩, ty, ps, af, none⟩ :: l) K fr H Γ := by
  have hlen := hrow.len
  cases hrow with
  | row h => exact aI_ he h hx hy hz hmc hH hl hnews h1c h63 hb hN fun sv' Hr' q => hk sv' Hr' (.row q)
  | @cut g k n cap pre xs Hr hp h =>
    cases ad with
    | none =>
      obtain rfl := hz rfl
      obtain rfl : m = 0 := by omega
      obtain rfl : news = [] := List.eq_nil_of_length_eq_zero (by simpa using hl)
      obtain ⟨_, cap1, ee, hnc, _⟩ := (ORow.cut (cap := cap) hp h).form
      simp only [Value.slice.injEq] at ee
      obtain ⟨_, _, rfl⟩ := ee
      refine a_ (x := .slice (some ⟨g, k * sz, none⟩) n cap) (fun a v h1 _ _ _ _ _ => ?_) hN (aj_ hH (hk _ Hr (by simpa using ORow.cut (cap := cap) hp h)))
      obtain ⟨i, z, hi, hz, es, eb, ez⟩ := he.info
      simp [execOp, resolve, invoke, builtin, h1.ev hx, h1.ev hy, Builtin.append_, run_underlying he.und, sizeOf, typeInfo, hi, Builtin.lenOf, Builtin.firstCells, hnc, storeCells]
    | some a0 =>
      obtain ⟨cap1, cur, hfull, e1, h4, h5, h6, h7⟩ : ∃ cap1 cur, cap1 = k + cap ∧ Hr = [(g, .cells cur e (0, 0))] ∧ k + n ≤ cap1 ∧ cap1 ≤ maxLen ∧ cur.size = cap1 * sz ∧ cur.toList.take ((k + n) * sz) = pre ++ xs := by
        rcases h.2 with ⟨h1, _⟩ | ⟨g1, cap1, cur, h1, h2, h3⟩
        · cases h1
        · simp only [Value.slice.injEq, Option.some.injEq, Addr.mk.injEq] at h1
          obtain ⟨⟨rfl, _, _⟩, _, rfl⟩ := h1
          exact ⟨_, cur, rfl, h2, h3⟩
      subst hfull
      refine cZ_ rfl fun a v h1 h2 h3 h4' => ?_
      have g2 := h2.perm hH
      have hn := fT_ (hnews v h2 h4')
      have hg := (g2.own (g, .cells cur e (0, 0)) (by rw [e1]; simp)).1
      by_cases hroom : n + m ≤ cap
      · obtain ⟨i, z, hi, hz', es, eb, ez⟩ := he.info
        subst es
        have hr := iE_ (P := P) v.w t ty e i he.und hi g (k * i.size) n cap cur hg a0 m c news hl hn h1c hroom (by rw [hl, h6, ← Nat.add_mul, ← Nat.add_mul]; exact Nat.mul_le_mul_right _ (by omega))
        rw [← Nat.add_mul] at hr
        have hL : (pre ++ xs ++ news).length = (k + n + m) * i.size := by rw [List.length_append, h.1, hl, ← Nat.add_mul]
        obtain ⟨Hr', k1, k2, k3⟩ := hV_ (sv' := .slice (some ⟨g, 0, none⟩) (k + n + m) (k + cap)) (n' := k + n + m) (ys := pre ++ xs ++ news) h g2
          (w' := v.w.setRow g (cur.toList.take ((k + n) * i.size) ++ news ++ cur.toList.drop ((k + n) * i.size + news.length)).toArray)
          ⟨hL, .inr ⟨g, k + cap, _, rfl, Nat.zero_le _, setRow_heap v.w g cur _ e _ hg, by omega, h5, by
              simp only [List.size_toArray, List.length_append, List.length_take, List.length_drop, Array.length_toList]
              have : (k + n) * i.size + news.length ≤ cur.size := by rw [hl, h6, ← Nat.add_mul]; exact Nat.mul_le_mul_right _ (by omega)
              omega, by rw [h7, ← hL]; exact List.take_left⟩⟩
          ⟨rfl, rfl, rfl, by simp, fun k _ hk => setRow_other v.w g k _ (fun e => hk (by simp [Value.ownBlock, e]))⟩ (by simp) (fun _ h => .inl h)
        unfold Oper.wp execOp
        simp only [resolve, invoke, builtin, Sem.run_bind, Sem.run_pure, Result.andThen_ok, List.map_toArray, List.map_cons, List.map_nil, h1.ev hx, h1.ev hy, hr]
        refine hk _ Hr' (.cut (pre := pre) (cap := cap) hp (by rw [← Nat.add_assoc, ← List.append_assoc]; exact k1)) _ ⟨v.im, _, v.sl⟩ (h1.put hN) k2 (h3.trans (k3.permL hH.symm)) (ck_ ((k3.permL hH.symm).le h2) h4')
      · have bd_ : ∀ j u, xs[j]? = some u → v.w.cell? ((⟨g, k * sz, none⟩ : Addr).add j) = some u := fun j u hj => by
          rw [cU_]
          have hj' := (List.getElem?_eq_some_iff.1 hj).1
          have hc : cur[k * sz + j]? = some u := by
            have q : (cur.toList.take ((k + n) * sz))[k * sz + j]? = some u := by rw [h7, List.getElem?_append_right (by omega), hp, Nat.add_sub_cancel_left]; exact hj
            rw [List.getElem?_take] at q
            split at q
            · simpa using q
            · cases q
          simp [World.cell?, hg, hc]
        obtain ⟨v', w', Hr', hr, k1, k2, k3⟩ := jk_ (F := F) (t := t) (ty' := ty) (cap := cap) (c := c) he g2 hlen bd_ hl hn (Nat.lt_of_not_le hroom) h63 hb
        unfold Oper.wp execOp
        simp only [resolve, invoke, builtin, Sem.run_bind, Sem.run_pure, Result.andThen_ok, List.map_toArray, List.map_cons, List.map_nil, h1.ev hx, h1.ev hy, hr]
        exact hk v' Hr' (.row k1) _ ⟨v.im, w', v.sl⟩ (h1.put hN) k2 (h3.trans (k3.permL hH.symm)) (ck_ ((k3.permL hH.symm).le h2) h4')
  | @out g k Hr =>
    have nothing : m = 0 → news = [] := fun q => List.eq_nil_of_length_eq_zero (by rw [hl, q, Nat.zero_mul])
    by_cases hm : m = 0
    · obtain rfl := nothing hm
      subst hm
      refine a_ (x := .slice (some ⟨g, k * sz, none⟩) 0 0) (fun a v h1 h2 h4 _ _ _ => ?_) hN (aj_ hH (hk _ Hr ORow.out))
      obtain ⟨i, z, hi, hz, es, eb, ez⟩ := he.info
      cases ad with
      | none => obtain rfl := hz rfl; simp [execOp, resolve, invoke, builtin, h1.ev hx, h1.ev hy, Builtin.append_, run_underlying he.und, sizeOf, typeInfo, hi, Builtin.lenOf, Builtin.firstCells, storeCells]
      | some a0 => simp [execOp, resolve, invoke, builtin, h1.ev hx, h1.ev hy, Builtin.append_, run_underlying he.und, sizeOf, typeInfo, hi, Builtin.lenOf, Builtin.firstCells, loadCells, loadCellsFrom, storeCells]
    · cases ad with
      | none => have := hz rfl; omega
      | some a0 =>
        refine cZ_ rfl fun a v h1 h2 h3 h4' => ?_
        have g2 := h2.perm hH
        have hn := fT_ (hnews v h2 h4')
        obtain ⟨v', w', Hr', hr, k1, k2, k3⟩ := jk_ (F := F) (t := t) (ty' := ty) (b := ⟨g, k * sz, none⟩) (cap := 0) he g2 hlen (fun j u hj => by simp at hj) hl hn (c := c) (by omega) h63 hb
        unfold Oper.wp execOp
        simp only [resolve, invoke, builtin, Sem.run_bind, Sem.run_pure, Result.andThen_ok, List.map_toArray, List.map_cons, List.map_nil, h1.ev hx, h1.ev hy, hr]
        exact hk v' Hr' (.row k1) _ ⟨v.im, w', v.sl⟩ (h1.put hN) k2 (h3.trans (k3.permL hH.symm)) (ck_ ((k3.permL hH.symm).le h2) h4')
end
end Go.Sx
namespace Go.Sx
open Go
section
variable {P : Program} {N : Nat} {v0 : Vw} {H0 : Hp} {R : Exit → Act → World → Prop} {K : List Kt} {fr : Fr} {H F : Hp} {Γ : List Fct} {ops : Array Oper} {l : List Oper} {d : Nat} {ty : TypeId} {ps : String} {af : Array Edge} {e : TypeId} {sz n : Nat} {sv : Value} {xs : List Value} {Hr : Hp}
theorem iv_ {t : TypeId} {x hi mx : Operand} {ad : Option Addr} {len cap j m : Nat} {kl kh : IntKind} (hu : ∀ w, (underlying t).run P w = .ok (.slice e) w) (hs : ∀ w, (sizeOf e).run P w = .ok n w) (hx : Fr.ev fr x = some (.slice ad len cap))
    (hh : Fr.ev fr hi = some (.int kl (j : Int))) (hm : Fr.ev fr mx = some (.int kh (m : Int))) (hjm : j ≤ m) (hmc : m ≤ cap) :
    Yld P N fr H Γ (.slice t x none (some hi) (some mx)) ty (.slice (sad ad m 0 n) j m) :=
  fun a v h1 h2 h4 _ _ _ => by
    simp [execOp, Instr.sliceAt, Instr.slice, hu, hs, h1.ev hx, h1.ev hh, h1.ev hm, Instr.sliceBounds, Instr.sliceBound, asIntOf, hjm, hmc, sad]
theorem sad0 {ad : Option Addr} {m n : Nat} {v : Vw} {cs : List Value} (h : bv_ v ad cs) : bv_ v (sad ad m 0 n) cs := by
  unfold sad
  split
  · exact h
  · rw [Nat.zero_mul]; exact h.drop 0 cs (fun j x hj => by rwa [Nat.zero_add])
theorem ic_ {x y : Operand} {t : TypeId} {by' m c cap : Nat} {olds news : List Value} {ad ad2 : Option Addr} (he : Elt P t e sz by')
    (hx : Fr.ev fr x = some (.slice ad n cap)) (hy : Fr.ev fr y = some (.slice ad2 m c)) (hz : ad = none → cap = 0) (hnc : n ≤ cap) (hz2 : ad2 = none → c = 0) (hmc : m ≤ c) (hlo : olds.length = n * sz) (hold : ∀ v, v.sat H → bd_ Γ v → bv_ v ad olds)
    (hl : news.length = m * sz) (hnews : ∀ v, v.sat H → bd_ Γ v → bv_ v ad2 news) (h1c : ∀ u ∈ news, u.oneCell' = true) (hg : cap < n + m) (h63 : n + m ≤ maxLen) (hb : (n + m) * by' ≤ 140737488355328) (hN : Nat.blt d N = true)
    (hk : ∀ sv' Hr', aQ_ e sz sv' (n + m) (olds ++ news) Hr' → Ops P R N v0 H0 ops l K ((d, sv') :: fr) (Hr' ++ H) Γ) :
    Ops P R N v0 H0 ops (⟨some d, .call ⟨.builtin .append, #[x, y], #[t, t]⟩, ty, ps, af, none⟩ :: l) K fr H Γ := by
  cases ad with
  | none =>
    obtain rfl := hz rfl
    obtain rfl : n = 0 := by omega
    have : olds = [] := List.eq_nil_of_length_eq_zero (by simpa using hlo)
    subst this
    exact aI_ he (aQ_.nil e sz) hx hy hz2 hmc (F := H) (.refl _) hl hnews h1c h63 hb hN hk
  | some a0 =>
    cases ad2 with
    | none => have := hz2 rfl; omega
    | some a1 =>
      refine cZ_ rfl fun a v h1 h2 h3 h4' => ?_
      have hn := fT_ (hnews v h2 h4')
      have ho := fT_ (hold v h2 h4')
      obtain ⟨v', w', Hr', hr, k1, k2, k3⟩ := jk_ (Hr := []) (F := H) (t := t) (ty' := ty) (cap := cap) (c := c) he (by simpa using h2) hlo ho hl hn hg h63 hb
      unfold Oper.wp execOp
      simp only [resolve, invoke, builtin, Sem.run_bind, Sem.run_pure, Result.andThen_ok, List.map_toArray, List.map_cons, List.map_nil, h1.ev hx, h1.ev hy, hr]
      exact hk v' Hr' k1 _ ⟨v.im, w', v.sl⟩ (h1.put hN) k2 (h3.trans k3) (ck_ (k3.le h2) h4')
end
end Go.Sx
namespace Go.Proofs
open Go.Shelf
open Go.RowKit in
open Go.RowKit in
def Tryz.lays122_ren : Go.Shelf.Ren := ⟨fun | 122 => 115 | 215 => 154 | n => n, fun | 3 => 3 | 4 => 4 | n => n, fun | n => n⟩
theorem Tryz.lays122 : Go.Proofs.Lays.n122 Tryz.prog Tryz.lays122_ren := {
  mixed := by kernel_rfl
  f122 := Tryz.func115.trans (congrArg some (by kernel_rfl))
  f215 := Tryz.func154.trans (congrArg some (by kernel_rfl))
  t3 := Tryz.underlying3
  a3 := Tryz.isAgg3
  z3 := Tryz.sizeOf3
  v3 := Tryz.zeroValue3
  t4 := Tryz.underlying4
  a4 := Tryz.isAgg4
  z4 := Tryz.sizeOf4
  v4 := Tryz.zeroValue4 }
open Go.RowKit in
theorem Tryz.cmp_Compare_int (x y : Int) (w : World) :
    Calls Tryz.prog 115 #[.int .i64 x, .int .i64 y] w fun e w' => e = .returned (.int .i64 (Lib.compareInt x y)) ∧ w' = w := Any.cmp_Compare_int Tryz.lays122 x y w
open Go.RowKit Go.Sort Go.Lib in
def Tryz.lays219_ren : Go.Shelf.Ren := ⟨fun | 219 => 225 | 217 => 245 | 225 => 246 | 224 => 247 | 267 => 248 | 266 => 253 | 314 => 254 | n => n, fun | 9 => 9 | 3 => 3 | 4 => 4 | 5 => 5 | 46 => 45 | 146 => 254 | 51 => 65 | n => n, fun | 1 => 2 | n => n⟩
theorem Tryz.lays219 : Go.Proofs.Lays.n219 Tryz.prog Tryz.lays219_ren := {
  mixed := by kernel_rfl
  f217 := Tryz.func245.trans (congrArg some (by kernel_rfl))
  f219 := Tryz.func225.trans (congrArg some (by kernel_rfl))
  f224 := Tryz.func247.trans (congrArg some (by kernel_rfl))
  f225 := Tryz.func246.trans (congrArg some (by kernel_rfl))
  f266 := Tryz.func253.trans (congrArg some (by kernel_rfl))
  f267 := Tryz.func248.trans (congrArg some (by kernel_rfl))
  f314 := Tryz.func254.trans (congrArg some (by kernel_rfl))
  t3 := Tryz.underlying3
  a3 := Tryz.isAgg3
  z3 := Tryz.sizeOf3
  v3 := Tryz.zeroValue3
  t4 := Tryz.underlying4
  a4 := Tryz.isAgg4
  z4 := Tryz.sizeOf4
  v4 := Tryz.zeroValue4
  t5 := Tryz.underlying5
  a5 := Tryz.isAgg5
  z5 := Tryz.sizeOf5
  v5 := Tryz.zeroValue5
  t9 := Tryz.underlying9
  a9 := Tryz.isAgg9
  z9 := Tryz.sizeOf9
  v9 := Tryz.zeroValue9
  t46 := Tryz.underlying45
  a46 := Tryz.isAgg45
  z46 := Tryz.sizeOf45
  v46 := Tryz.zeroValue45
  t51 := Tryz.underlying65
  a51 := Tryz.isAgg65
  z51 := Tryz.sizeOf65
  v51 := Tryz.zeroValue65
  t146 := Tryz.underlying254
  a146 := Tryz.isAgg254
  z146 := Tryz.sizeOf254
  v146 := Tryz.zeroValue254
  g1 := by kernel_rfl }
open Go.RowKit Go.Lib in
theorem Tryz.stringslite_Index_one (s : ByteArray) (c : UInt8) (w : World) :
    Calls Tryz.prog 225 #[.string s, .string ⟨#[c]⟩] w fun e w' => e = .returned (.int .i64 (Lib.indexByte s.data.toList c)) ∧ w' = w := Any.stringslite_Index_one Tryz.lays219 s c w
def Tryz.lays143_ren : Go.Shelf.Ren := ⟨fun | 143 => 212 | 219 => 225 | 217 => 245 | 225 => 246 | 224 => 247 | 267 => 248 | 266 => 253 | 314 => 254 | n => n, fun | 9 => 9 | 3 => 3 | 4 => 4 | 5 => 5 | 46 => 45 | 146 => 254 | 51 => 65 | n => n, fun | 1 => 2 | n => n⟩
theorem Tryz.lays143 : Go.Proofs.Lays.n143 Tryz.prog Tryz.lays143_ren := {
  mixed := by kernel_rfl
  f143 := Tryz.func212.trans (congrArg some (by kernel_rfl))
  f217 := Tryz.func245.trans (congrArg some (by kernel_rfl))
  f219 := Tryz.func225.trans (congrArg some (by kernel_rfl))
  f224 := Tryz.func247.trans (congrArg some (by kernel_rfl))
  f225 := Tryz.func246.trans (congrArg some (by kernel_rfl))
  f266 := Tryz.func253.trans (congrArg some (by kernel_rfl))
  f267 := Tryz.func248.trans (congrArg some (by kernel_rfl))
  f314 := Tryz.func254.trans (congrArg some (by kernel_rfl))
  t3 := Tryz.underlying3
  a3 := Tryz.isAgg3
  z3 := Tryz.sizeOf3
  v3 := Tryz.zeroValue3
  t4 := Tryz.underlying4
  a4 := Tryz.isAgg4
  z4 := Tryz.sizeOf4
  v4 := Tryz.zeroValue4
  t5 := Tryz.underlying5
  a5 := Tryz.isAgg5
  z5 := Tryz.sizeOf5
  v5 := Tryz.zeroValue5
  t9 := Tryz.underlying9
  a9 := Tryz.isAgg9
  z9 := Tryz.sizeOf9
  v9 := Tryz.zeroValue9
  t46 := Tryz.underlying45
  a46 := Tryz.isAgg45
  z46 := Tryz.sizeOf45
  v46 := Tryz.zeroValue45
  t51 := Tryz.underlying65
  a51 := Tryz.isAgg65
  z51 := Tryz.sizeOf65
  v51 := Tryz.zeroValue65
  t146 := Tryz.underlying254
  a146 := Tryz.isAgg254
  z146 := Tryz.sizeOf254
  v146 := Tryz.zeroValue254
  g1 := by kernel_rfl }
open Go.RowKit Go.Lib in
theorem Tryz.strings_Index_one (s : ByteArray) (c : UInt8) (w : World) :
    Calls Tryz.prog 212 #[.string s, .string ⟨#[c]⟩] w fun e w' => e = .returned (.int .i64 (Lib.indexByte s.data.toList c)) ∧ w' = w := Any.strings_Index_one Tryz.lays143 s c w
def Tryz.lays138_ren : Go.Shelf.Ren := ⟨fun | 138 => 211 | 195 => 222 | 218 => 224 | 143 => 212 | 219 => 225 | 217 => 245 | 225 => 246 | 224 => 247 | 267 => 248 | 266 => 253 | 314 => 254 | n => n, fun | 9 => 9 | 3 => 3 | 4 => 4 | 5 => 5 | 0 => 0 | 46 => 45 | 146 => 254 | 51 => 65 | n => n, fun | 1 => 2 | n => n⟩
theorem Tryz.lays138 : Go.Proofs.Lays.n138 Tryz.prog Tryz.lays138_ren := {
 mixed := by kernel_rfl
 f138 := Tryz.func211.trans (congrArg some (by kernel_rfl))
 f143 := Tryz.func212.trans (congrArg some (by kernel_rfl))
 f195 := Tryz.func222.trans (congrArg some (by kernel_rfl))
 f217 := Tryz.func245.trans (congrArg some (by kernel_rfl))
 f218 := Tryz.func224.trans (congrArg some (by kernel_rfl))
 f219 := Tryz.func225.trans (congrArg some (by kernel_rfl))
 f224 := Tryz.func247.trans (congrArg some (by kernel_rfl))
 f225 := Tryz.func246.trans (congrArg some (by kernel_rfl))
 f266 := Tryz.func253.trans (congrArg some (by kernel_rfl))
 f267 := Tryz.func248.trans (congrArg some (by kernel_rfl))
 f314 := Tryz.func254.trans (congrArg some (by kernel_rfl))
 t0 := Tryz.underlying0
 a0 := Tryz.isAgg0
 z0 := Tryz.sizeOf0
 v0 := Tryz.zeroValue0
 t3 := Tryz.underlying3
 a3 := Tryz.isAgg3
 z3 := Tryz.sizeOf3
 v3 := Tryz.zeroValue3
 t4 := Tryz.underlying4
 a4 := Tryz.isAgg4
 z4 := Tryz.sizeOf4
 v4 := Tryz.zeroValue4
 t5 := Tryz.underlying5
 a5 := Tryz.isAgg5
 z5 := Tryz.sizeOf5
 v5 := Tryz.zeroValue5
 t9 := Tryz.underlying9
 a9 := Tryz.isAgg9
 z9 := Tryz.sizeOf9
 v9 := Tryz.zeroValue9
 t46 := Tryz.underlying45
 a46 := Tryz.isAgg45
 z46 := Tryz.sizeOf45
 v46 := Tryz.zeroValue45
 t51 := Tryz.underlying65
 a51 := Tryz.isAgg65
 z51 := Tryz.sizeOf65
 v51 := Tryz.zeroValue65
 t146 := Tryz.underlying254
 a146 := Tryz.isAgg254
 z146 := Tryz.sizeOf254
 v146 := Tryz.zeroValue254
 g1 := by kernel_rfl }
open Go.RowKit Go.Lib in
theorem Tryz.strings_Count_one (s : ByteArray) (c : UInt8) (w : World) :
    Calls Tryz.prog 211 #[.string s, .string ⟨#[c]⟩] w fun e w' => e = .returned (.int .i64 (Lib.countByte s.data.toList c)) ∧ w' = w := Any.strings_Count_one Tryz.lays138 s c w
def Tryz.lays190_ren : Go.Shelf.Ren := ⟨fun | 190 => 87 | 125 => 113 | 258 => 131 | 128 => 152 | 129 => 153 | 302 => 165 | 303 => 166 | 304 => 167 | 305 => 168 | 306 => 169 | 307 => 170 | 308 => 171 | 309 => 172 | 310 => 173 | 333 => 194 | 329 => 186 | 330 => 187 | 334 => 195 | 335 => 196 | 336 => 197 | 344 => 214 | n => n, fun | 31 => 25 | 9 => 9 | 3 => 3 | 46 => 45 | 0 => 0 | 51 => 65 | 53 => 186 | 4 => 4 | 183 => 178 | 182 => 177 | 131 => 182 | 5 => 5 | 218 => 205 | 222 => 199 | 228 => 227 | 229 => 228 | n => n, fun | n => n⟩
theorem Tryz.lays190 : Go.Proofs.Lays.n190 Tryz.prog Tryz.lays190_ren := {
 mixed := by kernel_rfl
 f125 := Tryz.func113.trans (congrArg some (by kernel_rfl))
 f128 := Tryz.func152.trans (congrArg some (by kernel_rfl))
 f129 := Tryz.func153.trans (congrArg some (by kernel_rfl))
 f190 := Tryz.func87.trans (congrArg some (by kernel_rfl))
 f258 := Tryz.func131.trans (congrArg some (by kernel_rfl))
 f302 := Tryz.func165.trans (congrArg some (by kernel_rfl))
 f303 := Tryz.func166.trans (congrArg some (by kernel_rfl))
 f304 := Tryz.func167.trans (congrArg some (by kernel_rfl))
 f305 := Tryz.func168.trans (congrArg some (by kernel_rfl))
 f306 := Tryz.func169.trans (congrArg some (by kernel_rfl))
 f307 := Tryz.func170.trans (congrArg some (by kernel_rfl))
 f308 := Tryz.func171.trans (congrArg some (by kernel_rfl))
 f309 := Tryz.func172.trans (congrArg some (by kernel_rfl))
 f310 := Tryz.func173.trans (congrArg some (by kernel_rfl))
 f329 := Tryz.func186.trans (congrArg some (by kernel_rfl))
 f330 := Tryz.func187.trans (congrArg some (by kernel_rfl))
 f333 := Tryz.func194.trans (congrArg some (by kernel_rfl))
 f334 := Tryz.func195.trans (congrArg some (by kernel_rfl))
 f335 := Tryz.func196.trans (congrArg some (by kernel_rfl))
 f336 := Tryz.func197.trans (congrArg some (by kernel_rfl))
 f344 := Tryz.func214.trans (congrArg some (by kernel_rfl))
 t0 := Tryz.underlying0
 a0 := Tryz.isAgg0
 z0 := Tryz.sizeOf0
 v0 := Tryz.zeroValue0
 t3 := Tryz.underlying3
 a3 := Tryz.isAgg3
 z3 := Tryz.sizeOf3
 v3 := Tryz.zeroValue3
 t4 := Tryz.underlying4
 a4 := Tryz.isAgg4
 z4 := Tryz.sizeOf4
 v4 := Tryz.zeroValue4
 t5 := Tryz.underlying5
 a5 := Tryz.isAgg5
 z5 := Tryz.sizeOf5
 v5 := Tryz.zeroValue5
 t9 := Tryz.underlying9
 a9 := Tryz.isAgg9
 z9 := Tryz.sizeOf9
 v9 := Tryz.zeroValue9
 t31 := Tryz.underlying25
 a31 := Tryz.isAgg25
 z31 := Tryz.sizeOf25
 v31 := Tryz.zeroValue25
 t46 := Tryz.underlying45
 a46 := Tryz.isAgg45
 z46 := Tryz.sizeOf45
 v46 := Tryz.zeroValue45
 t51 := Tryz.underlying65
 a51 := Tryz.isAgg65
 z51 := Tryz.sizeOf65
 v51 := Tryz.zeroValue65
 t53 := Tryz.underlying186
 a53 := Tryz.isAgg186
 z53 := Tryz.sizeOf186
 v53 := Tryz.zeroValue186
 t131 := Tryz.underlying182
 a131 := Tryz.isAgg182
 z131 := Tryz.sizeOf182
 v131 := Tryz.zeroValue182
 t182 := Tryz.underlying177
 a182 := Tryz.isAgg177
 z182 := Tryz.sizeOf177
 v182 := Tryz.zeroValue177
 t183 := Tryz.underlying178
 a183 := Tryz.isAgg178
 z183 := Tryz.sizeOf178
 v183 := Tryz.zeroValue178
 t218 := Tryz.underlying205
 a218 := Tryz.isAgg205
 z218 := Tryz.sizeOf205
 v218 := Tryz.zeroValue205
 t222 := Tryz.underlying199
 a222 := Tryz.isAgg199
 z222 := Tryz.sizeOf199
 v222 := Tryz.zeroValue199
 t228 := Tryz.underlying227
 a228 := Tryz.isAgg227
 z228 := Tryz.sizeOf227
 v228 := Tryz.zeroValue227
 t229 := Tryz.underlying228
 a229 := Tryz.isAgg228
 z229 := Tryz.sizeOf228
 v229 := Tryz.zeroValue228 }
open Go.Sort Go.RowKit in
theorem Tryz.slices_Sort_string (blk off cap : Nat) (ss : List (List UInt8)) (w : World) (hH : Holds encStr w blk off ss.toArray) (hblk : blk < w.heap.size) (hsz : ss.length < 4611686018427387904) :
    Calls Tryz.prog 87 #[.slice (some ⟨blk, off, none⟩) ss.length cap] w fun e w' =>
      e = .returned (.tuple #[]) ∧ ∃ n os, w' = grow (putRow encStr (Sort.ahead w n) blk off (ss.mergeSort fun x y => decide (x ≤ y)).toArray) os := Any.slices_Sort_string Tryz.lays190 blk off cap ss w hH hblk hsz
def Tryz.lays194_ren : Go.Shelf.Ren := ⟨fun | 194 => 88 | n => n, fun | 31 => 25 | 9 => 9 | 3 => 3 | 4 => 4 | 0 => 0 | n => n, fun | n => n⟩
theorem Tryz.lays194 : Go.Proofs.Lays.n194 Tryz.prog Tryz.lays194_ren := {
  mixed := by kernel_rfl
  f194 := Tryz.func88.trans (congrArg some (by kernel_rfl))
  t0 := Tryz.underlying0
  a0 := Tryz.isAgg0
  z0 := Tryz.sizeOf0
  v0 := Tryz.zeroValue0
  t3 := Tryz.underlying3
  a3 := Tryz.isAgg3
  z3 := Tryz.sizeOf3
  v3 := Tryz.zeroValue3
  t4 := Tryz.underlying4
  a4 := Tryz.isAgg4
  z4 := Tryz.sizeOf4
  v4 := Tryz.zeroValue4
  t9 := Tryz.underlying9
  a9 := Tryz.isAgg9
  z9 := Tryz.sizeOf9
  v9 := Tryz.zeroValue9
  t31 := Tryz.underlying25
  a31 := Tryz.isAgg25
  z31 := Tryz.sizeOf25
  v31 := Tryz.zeroValue25 }
open Go.RowKit Go.Lib Go.Sort in
theorem Tryz.slices_Compact_string (blk off cap : Nat) (zs : List (List UInt8)) (w : World) (hH : Holds encStr w blk off zs.toArray) (hsz : zs.length ≤ 9223372036854775807) (hcap : zs.length ≤ cap) :
    Calls Tryz.prog 88 #[.slice (some ⟨blk, off, none⟩) zs.length cap] w fun e w' => e = .returned (.slice (some ⟨blk, off, none⟩) (Lib.compact zs).length cap) ∧ ∃ q, w' = putRow encStr (Sort.ahead w q) blk off (Lib.compact zs ++ List.replicate (zs.length - (Lib.compact zs).length) []).toArray := Any.slices_Compact_string Tryz.lays194 blk off cap zs w hH hsz hcap
open Go.RowKit Go.Lib Go.Sort in
theorem Tryz.slices_Compact_string_empty (a : Option Addr) (cap : Nat) (w : World) :
    Calls Tryz.prog 88 #[.slice a 0 cap] w fun e w' => e = .returned (.slice a 0 cap) ∧ w' = w := Any.slices_Compact_string_empty Tryz.lays194 a cap w
open Go.RowKit Go.Sort in
theorem Tryz.slices_Sort_string_none (p : Option Addr) (cap : Nat) (w : World) :
    Calls Tryz.prog 87 #[.slice p 0 cap] w fun e w' => e = .returned (.tuple #[]) ∧ w' = w := Any.slices_Sort_string_none Tryz.lays190 p cap w
end Go.Proofs
namespace Go.Proofs
open Go.Shelf
def Tryz.lays106_ren : Go.Shelf.Ren := ⟨fun | 106 => 71 | 213 => 123 | 265 => 160 | n => n, fun | 9 => 9 | 3 => 3 | n => n, fun | n => n⟩
theorem Tryz.lays106 : Go.Proofs.Lays.n106 Tryz.prog Tryz.lays106_ren := {
  mixed := by kernel_rfl
  f106 := Tryz.func71.trans (congrArg some (by kernel_rfl))
  f213 := Tryz.func123.trans (congrArg some (by kernel_rfl))
  f265 := Tryz.func160.trans (congrArg some (by kernel_rfl))
  t3 := Tryz.underlying3
  a3 := Tryz.isAgg3
  z3 := Tryz.sizeOf3
  v3 := Tryz.zeroValue3
  t9 := Tryz.underlying9
  a9 := Tryz.isAgg9
  z9 := Tryz.sizeOf9
  v9 := Tryz.zeroValue9 }
open Go.RowKit in
theorem Tryz.strings_Compare (a b : ByteArray) (w : World) :
    Calls Tryz.prog 71 #[.string a, .string b] w fun e w' => e = .returned (.int .i64 (Lib.compareBytes a.data.toList b.data.toList)) ∧ w' = w := Any.strings_Compare Tryz.lays106 a b w
end Go.Proofs
