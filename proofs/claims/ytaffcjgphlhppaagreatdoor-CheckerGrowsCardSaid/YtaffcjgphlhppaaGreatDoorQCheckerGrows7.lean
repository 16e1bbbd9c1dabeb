/-
  Part of the proof of the law CheckerGrows over this seat: the small logic, the data, the contracts of functions (no condition).
-/
import Derived.Test.YtaffcjgphlhppaaGreatDoorQCheckerGrows6
import Derived.Test.YtaffcjgphlhppaaGreatDoorQCheckerGrows3
import Derived.Lib.AppendStr
import Derived.Laws.BytesString
import Derived.Test.YtaffcjgphlhppaaGreatDoorQCheckerGrows5
import Derived.Test.YtaffcjgphlhppaaGreatDoorQCheckerGrows4
set_option linter.unusedVariables false
set_option linter.unusedSimpArgs false
set_option linter.unusedSectionVars false
namespace Go.Sx
open Go Go.Vs
theorem hP_ {P : Program} (w : World) {t tx ty' e : TypeId} {i : TypeInfo} {n : Nat} {sv v' : Value} {w' : World} {xs : List Value} {s : ByteArray} (ht : P.underlying t = some (.slice e)) (hu : P.underlying tx = some .string) (hi : P.info? e = some i) (hz : i.zero = some (.int .u8 0))
    (hsz : i.size = 1) (hby : i.bytes = 1) (hown : w.ownsRow 0 e 1 sv n xs) (h63 : n + s.size ≤ maxLen) (hb : n + s.size ≤ 140737488355328)
    (hr : (Builtin.append_ #[t, tx] ty' #[sv, .string s]).run P w = .ok v' w') : w.drawn ≤ w'.drawn ∧ ∀ g, v'.ownBlock = some g → sv.ownBlock = some g ∨ w.heap.size ≤ g := by
  have hsmall : n + s.size ≤ 9223372036854775807 := by simp only [maxLen] at h63; omega
  rcases hown.2 with ⟨rfl, rfl⟩ | ⟨b, cap, cur, rfl, _, hgg, hnc, _, hcs, htake⟩
  · by_cases hm : s.size = 0
    · have : (Builtin.append_ #[t, tx] ty' #[.slice none 0 0, .string s]).run P w = .ok (.slice none 0 0) w := by
        have hf := Lib.run_firstCells_string (P := P) w 1 s
        have hn : Lib.strCells s = [] := List.eq_nil_of_length_eq_zero (by rw [Lib.strCells_length]; exact hm)
        rw [hm, hn] at hf
        simp [Builtin.append_, run_underlying ht, run_underlying hu, sizeOf, typeInfo, hi, hsz, Builtin.lenOf, hm, hf]
      rw [this] at hr
      cases hr
      exact ⟨Nat.le_refl _, fun g hg => by simp [Value.ownBlock] at hg⟩
    · have := run_append_nil_string (P := P) w t tx ty' e i (.int .u8 0) ht hu hi hz s (by omega) (by omega) (by rw [hby]; omega)
      rw [this] at hr
      cases hr
      refine ⟨by simp, fun g hg => ?_⟩
      simp only [Value.ownBlock, Option.some.injEq] at hg
      exact .inr (by omega)
  · have hxl : xs.length = n := by simpa using hown.1
    by_cases hroom : n + s.size ≤ cap
    · have hcs' : cur.size = cap := by simpa using hcs
      have := Lib.run_append_room_string (P := P) w t tx ty' e i ht hu hi hsz b n cap cur hgg s hroom (by omega)
      rw [this] at hr
      cases hr
      exact ⟨by simp, fun g hg => .inl hg⟩
    · have aw_ : ∀ j u, xs[j]? = some u → w.cell? ((⟨b, 0, none⟩ : Addr).add j) = some u := hown.cells (g := b) rfl
      have := Lib.run_append_grow_string (P := P) w t tx ty' e i (.int .u8 0) ht hu hi hz ⟨b, 0, none⟩ n cap xs (by rw [hsz]; simpa using hxl) aw_ s (by omega) (by omega) (by rw [hby]; exact growslice_fits (by omega) (by omega))
      rw [this] at hr
      cases hr
      refine ⟨by simp, fun g hg => ?_⟩
      simp only [Value.ownBlock, Option.some.injEq] at hg
      exact .inr (by omega)
structure EltB (P : Program) (t e tx : TypeId) : Prop where
  und : P.underlying t = some (.slice e)
  str : P.underlying tx = some .string
  info : ∃ i, P.info? e = some i ∧ i.zero = some (.int .u8 0) ∧ i.size = 1 ∧ i.bytes = 1
theorem eltB {P : Program} {t e tx : TypeId} (hu : P.underlying t = some (.slice e)) (hs : P.underlying tx = some .string) (hi : (P.info? e).map (fun i => (i.zero, i.size, i.bytes)) = some (some (.int .u8 0), 1, 1)) : EltB P t e tx := by
  cases h : P.info? e with
  | none => rw [h] at hi; simp at hi
  | some i =>
    rw [h] at hi
    simp only [Option.map_some, Option.some.injEq, Prod.mk.injEq] at hi
    exact ⟨hu, hs, i, h, hi⟩
theorem iK_ (s : Str) : Lib.strCells ⟨s.toArray⟩ = s.flatMap u8C := by
  simp only [Lib.strCells]
  induction s with
  | nil => rfl
  | cons c s ih => rw [List.flatMap_cons, ← ih]; rfl
section
variable {P : Program} {N : Nf} {v0 : Vw} {H0 : Hp} {R : Exit → Act → World → Prop} {K : List Kt} {fr : Fr} {H : Hp} {Γ : List Fct}
variable {ops : Array Oper} {l : List Oper} {d : Nat} {ty : TypeId} {ps : String} {af : Array Edge}
theorem hN_ {x y : Operand} {t e tx : TypeId} {L s : Str} {sv : Value} {Hr F : Hp} (he : EltB P t e tx) (hrow : br_ e 1 sv L.length (List.flatMap u8C L) Hr)
    (hx : Fr.ev fr x = some sv) (hy : Fr.ev fr y = some (str s)) (hH : H.Perm (Hr ++ F)) (hb : L.length + s.length ≤ 140737488355328) (hN : Nat.blt d N.n = true)
    (hk : ∀ sv' Hr', br_ e 1 sv' (L ++ s).length (List.flatMap u8C (L ++ s)) Hr' → Ops P R N v0 H0 ops l K ((d, sv') :: fr) (Hr' ++ F) Γ) :
    Ops P R N v0 H0 ops (⟨some d, .call ⟨.builtin .append, #[x, y], #[t, tx]⟩, ty, ps, af, none⟩ :: l) K fr H Γ :=
  cr_ rfl fun a v h1 h2 h3 h4 => by
    obtain ⟨i, hi, hz, es, eb⟩ := he.info
    have g := h2.perm hH
    have ho := hrow.owns g
    have hm : L.length + (⟨s.toArray⟩ : ByteArray).size ≤ maxLen := by show L.length + s.toArray.size ≤ _; simp only [List.size_toArray, maxLen]; omega
    have hb' : L.length + (⟨s.toArray⟩ : ByteArray).size ≤ 140737488355328 := by show L.length + s.toArray.size ≤ _; simpa using hb
    obtain ⟨v', w', hr, q1, q2, _⟩ := Lib.run_append_own_string (P := P) v.w 0 t tx ty e i he.und he.str hi hz es eb sv L.length _ ho ⟨s.toArray⟩ hm hb' (Nat.zero_le _)
    obtain ⟨a1, a2⟩ := hP_ v.w he.und he.str hi hz es eb ho hm hb' hr
    obtain ⟨Hr', k1, k2, k3⟩ := is_ hrow g q1 q2 a1 a2
    have k1' : br_ e 1 v' (L ++ s).length (List.flatMap u8C (L ++ s)) Hr' := by
      have e1 : (⟨s.toArray⟩ : ByteArray).size = s.length := by show s.toArray.size = _; simp
      rw [iK_, e1, ← List.flatMap_append, ← List.length_append] at k1
      exact k1
    have hy' := h1.ev hy
    rw [str] at hy'
    unfold Oper.wp execOp
    simp only [resolve, invoke, builtin, Sem.run_bind, Sem.run_pure, Result.andThen_ok, List.map_toArray, List.map_cons, List.map_nil, h1.ev hx, hy', hr]
    exact hk v' Hr' k1' _ ⟨v.im, w', v.sl⟩ (h1.put hN) k2 (h3.trans (k3.permL hH.symm)) (bn_ ((k3.permL hH.symm).le h2) h4)
theorem md_ {t t' : TypeId} {x y : Operand} {ky : IntKind} {m : Nat} {i : Nat} (hx : Fr.ev fr x = some (.int .u64 (m : Int))) (hy : Fr.ev fr y = some (.int ky (8 * (i : Int)))) (hi : i < 8) : Yld P N fr H Γ (.binOp .shr t x y t') ty (.int .u64 ((m / 256 ^ i : Nat) : Int)) :=
  fun a v h1 _ _ _ _ _ => by
    have e1 : ¬ (8 * (i : Int) < 0) := by omega
    have e2 : min (8 * (i : Int)).toNat 64 = 8 * i := by omega
    have e3 : (m : Int).fdiv (2 ^ (8 * i)) = ((m / 256 ^ i : Nat) : Int) := by
      rw [Int.fdiv_eq_ediv_of_nonneg _ (Int.pow_nonneg (by decide)), show (256 : Nat) = 2 ^ 8 from rfl, ← Nat.pow_mul]
      simp
    have e : Op.shift .shr .u64 (m : Int) ky (8 * (i : Int)) = Sem.pure (.int .u64 ((m / 256 ^ i : Nat) : Int)) := by
      unfold Op.shift
      rw [if_neg e1]
      show Sem.pure (Value.int .u64 ((m : Int).fdiv (2 ^ min (8 * (i : Int)).toNat 64))) = _
      rw [e2, e3]
    simp only [execOp, h1.ev hx, h1.ev hy, eqGuard, binOp, e]
    simp
theorem ls_ (n : Int) : IntKind.wrap .u64 n = (Go.Vs.bits n : Int) := by
  have h : (0 : Int) ≤ n.emod 18446744073709551616 := Int.emod_nonneg _ (by decide)
  simp only [IntKind.wrap, IntKind.signed, IntKind.bits, Go.Vs.bits, Bool.false_eq_true, false_and, if_false]
  rw [Int.toNat_of_nonneg h]
  rfl
theorem nQ_ (n : Nat) : IntKind.wrap .u8 (n : Int) = ((UInt8.ofNat n).toNat : Int) := by
  simp [IntKind.wrap, IntKind.signed, IntKind.bits]
theorem me_ {t t' : TypeId} {x y : Operand} {ky : IntKind} {m : Nat} (hx : Fr.ev fr x = some (.int .u64 (m : Int))) (hy : Fr.ev fr y = some (.int ky 8)) (hm : m * 256 < 18446744073709551616) : Yld P N fr H Γ (.binOp .shl t x y t') ty (.int .u64 ((m * 256 : Nat) : Int)) :=
  fun a v h1 _ _ _ _ _ => by
    have e : IntKind.wrap .u64 ((m : Int) * 256) = ((m * 256 : Nat) : Int) := by
      rw [ml_ (by omega) (by omega)]; simp
    simp [execOp, h1.ev hx, h1.ev hy, eqGuard, binOp, Op.shift, IntKind.bits, e]
theorem nN_ {t t' : TypeId} {x y : Operand} {m c : Nat} (hx : Fr.ev fr x = some (.int .u64 ((m * 256 : Nat) : Int))) (hy : Fr.ev fr y = some (.int .u64 (c : Int))) (hm : m * 256 < 18446744073709551616) (hc : c < 256) : Yld P N fr H Γ (.binOp .or t x y t') ty (.int .u64 ((m * 256 + c : Nat) : Int)) :=
  fun a v h1 _ _ _ _ _ => by
    have e0 : ∀ k : Nat, k < 18446744073709551616 → (BitVec.ofInt 64 (k : Int)).toNat = k := fun k hk => by
      rw [BitVec.ofInt_natCast, BitVec.toNat_ofNat]; exact Nat.mod_eq_of_lt hk
    have e1 : m * 256 ||| c = m * 256 + c := by
      have := Nat.two_pow_add_eq_or_of_lt (i := 8) (b := c) (by simpa using hc) m
      rw [Nat.mul_comm] at this
      exact this.symm
    have e2 : (BitVec.ofInt 64 ((m * 256 : Nat) : Int) ||| BitVec.ofInt 64 (c : Int)).toNat = m * 256 + c := by
      rw [BitVec.toNat_or, e0 _ hm, e0 c (by omega), e1]
    have e : Op.intBits .or .u64 ((m * 256 : Nat) : Int) (c : Int) = Sem.pure (.int .u64 ((m * 256 + c : Nat) : Int)) := by
      show Sem.pure (Value.int .u64 (IntKind.wrap .u64 ((BitVec.ofInt 64 ((m * 256 : Nat) : Int) ||| BitVec.ofInt 64 (c : Int)).toNat : Int))) = _
      rw [e2, ml_ (by omega) (by omega)]
    simp only [execOp, h1.ev hx, h1.ev hy, eqGuard, binOp, e]
    simp
end
end Go.Sx
namespace Go.Sx
open Go Go.Vs
structure Dst where
  ad : Option Addr
  cap : Nat
  r : Str
def Dst.ok (d : Dst) : Prop := d.r.length ≤ d.cap ∧ d.cap ≤ maxLen ∧ (d.ad = none → d.cap = 0)
theorem ip_ {n : Nat} {r : Str} (h : ¬ n ≤ r.length) : di_ n r = none := by unfold di_ hV_; rw [if_neg h]; rfl
theorem gu_ {n : Nat} {r : Str} (h : n ≤ r.length) : di_ n r = some (beN (r.take n), r.drop n) := by unfold di_ hV_; rw [if_pos h]; rfl
theorem gb_ {n v : Nat} {r r' : Str} (h : di_ n r = some (v, r')) : v < 256 ^ n := by
  by_cases hn : n ≤ r.length
  · rw [gu_ hn] at h
    simp only [Option.some.injEq, Prod.mk.injEq] at h
    have := kN_ (r.take n)
    rw [List.length_take, Nat.min_eq_left hn, h.1] at this
    exact this
  · rw [ip_ hn] at h; cases h
theorem lv_ {n : Nat} {r : Str} (h : ¬ n ≤ r.length) : hV_ n r = none := if_neg h
theorem lu_ {n : Nat} {r : Str} (h : n ≤ r.length) : hV_ n r = some (r.take n, r.drop n) := if_pos h
def de_ (r : Str) : Option (Int × Str) := (di_ 1 r).map fun y => ((y.1 : Int), y.2)
def fd_ (r : Str) : Option (Int × Str) := (di_ 8 r).map fun y => (fK_ y.1, y.2)
def eQ_ (r : Str) : Option (Int × Str) := (eO_ r).map fun y => ((y.1 : Int), y.2)
theorem mk_ {n : Nat} (h : n < 18446744073709551616) : IntKind.wrap .i64 (n : Int) = fK_ n := by
  have e : ((n : Int) % 18446744073709551616) = n := Int.emod_eq_of_lt (by omega) (by omega)
  unfold fK_
  simp only [IntKind.wrap, IntKind.signed, IntKind.bits]
  show (if (true && decide ((n : Int) % 18446744073709551616 ≥ 9223372036854775808)) = true then (n : Int) % 18446744073709551616 - 18446744073709551616 else (n : Int) % 18446744073709551616) = _
  rw [e]
  by_cases h' : n < 9223372036854775808
  · rw [if_pos h', if_neg (by simp; omega)]
  · rw [if_neg h', if_pos (by simp; omega)]
theorem iE_ {n : Nat} (h : n < 9223372036854775808) : IntKind.wrap .i64 (n : Int) = n := by
  rw [mk_ (by omega)]; exact if_pos h
def cA_ {α : Type} (f : Str → Option (α × Str)) (val : α → Value) : List Nat → List Value → Str → Option (List Value × Str)
  | [], cs, r => some (cs, r)
  | o :: os, cs, r => (f r).bind fun y => cA_ f val os (cs.set o (val y.1)) y.2
theorem drop_at {α : Type} {l : List α} {i : Nat} {x : α} (h : l[i]? = some x) : l.drop i = x :: l.drop (i + 1) := by
  obtain ⟨hl, e⟩ := List.getElem?_eq_some_iff.1 h
  rw [List.drop_eq_getElem_cons hl, e]
theorem iv_ {α : Type} {f : Str → Option (α × Str)} {val : α → Value} {os : List Nat} {i o : Nat} {c : List Value} {r : Str} {X : Option (List Value × Str)} (hX : X = cA_ f val (os.drop i) c r) (ho : os[i]? = some o) (hb : f r = none) : X = none := by
  rw [hX, drop_at ho, cA_, hb]; rfl
theorem iw_ {α : Type} {f : Str → Option (α × Str)} {val : α → Value} {os : List Nat} {i o : Nat} {c : List Value} {r r' : Str} {v : α} {X : Option (List Value × Str)} (hX : X = cA_ f val (os.drop i) c r) (ho : os[i]? = some o) (hb : f r = some (v, r')) : X = cA_ f val (os.drop (i + 1)) (c.set o (val v)) r' := by
  rw [hX, drop_at ho, cA_, hb]; rfl
theorem kc_ {α : Type} {f : Str → Option (α × Str)} {val : α → Value} {os : List Nat} {i : Nat} {c : List Value} {r : Str} {X : Option (List Value × Str)} (hX : X = cA_ f val (os.drop i) c r) (hi : os.length ≤ i) : X = some (c, r) := by
  rw [hX, List.drop_of_length_le hi]; rfl
theorem fi_ {α : Type} {f : Str → Option (α × Str)} {val : α → Value} {o : Nat} {cs c : List Value} {r r' : Str} (h : cA_ f val [o] cs r = some (c, r')) : ∃ v, f r = some (v, r') ∧ c = cs.set o (val v) := by
  simp only [cA_] at h
  cases h1 : f r with
  | none => rw [h1] at h; cases h
  | some y => rw [h1] at h; simp only [Option.bind_some, Option.some.injEq, Prod.mk.injEq] at h; exact ⟨y.1, by rw [← h.2], h.1.symm⟩
theorem fv_ {α : Type} {f : Str → Option (α × Str)} {val : α → Value} {o : Nat} {os : List Nat} {cs c : List Value} {r r' : Str} (h : cA_ f val (o :: os) cs r = some (c, r')) : ∃ v r1, f r = some (v, r1) ∧ cA_ f val os (cs.set o (val v)) r1 = some (c, r') := by
  simp only [cA_] at h
  cases h1 : f r with
  | none => rw [h1] at h; cases h
  | some y => rw [h1] at h; exact ⟨y.1, y.2, rfl, h⟩
def hL_ (tb : Nat) (o : Nat) : List Value := [.pointer (some ⟨tb, o, none⟩)]
theorem fT_ (tb o : Nat) : (hL_ tb o).length = 1 := rfl
def iB_ (P : Program) (g : FuncId) (T : TypeId) (db : Nat) {α : Type} (val : α → Value) (f : Str → Option (α × Str)) : Prop := ∀ d : Dst, d.ok →
  TriX P g #[.pointer (some ⟨db, 0, none⟩)] [(db, .cells #[.slice d.ad d.r.length d.cap] T (0, 0))] [aR_ d.ad (d.r.flatMap u8C)] (fun y : {y : α × Dst // f d.r = some (y.1, y.2.r) ∧ y.2.ok} => val y.1.1)
    (fun y => [(db, .cells #[.slice y.1.2.ad y.1.2.r.length y.1.2.cap] T (0, 0))]) (fun y => [aR_ y.1.2.ad (y.1.2.r.flatMap u8C)]) (f d.r = none)
theorem mA_ {l : Str} {i : Nat} (h : i < l.length) (h8 : l.length ≤ 8) : beN (l.take i) * 256 < 18446744073709551616 := by
  have := kN_ (l.take i)
  rw [List.length_take, Nat.min_eq_left (by omega)] at this
  have h2 : (256 : Nat) ^ i ≤ 256 ^ 7 := Nat.pow_le_pow_right (by decide) (by omega)
  have e : (256 : Nat) ^ 7 = 72057594037927936 := by decide
  omega
theorem oV_ {l : Str} {i : Nat} {c : UInt8} (h : l[i]? = some c) : beN (l.take (i + 1)) = beN (l.take i) * 256 + c.toNat := by
  rw [List.take_add_one, h, Option.toList_some, nH_]
theorem idx_f {r r' : Str} {v : Nat} (h : di_ 4 r = some (v, r')) (hv : ¬ v ≤ 2147483647) : eQ_ r = none := by
  unfold eQ_ eO_; rw [h, Option.bind_some, if_neg hv]; rfl
theorem pj_ {r r' : Str} {v : Nat} (h : di_ 4 r = some (v, r')) (hv : v ≤ 2147483647) : eQ_ r = some ((v : Int), r') := by
  unfold eQ_ eO_; rw [h, Option.bind_some, if_pos hv]; rfl
theorem idx_n {r : Str} (h : di_ 4 r = none) : eQ_ r = none := by unfold eQ_ eO_; rw [h]; rfl
theorem text_f {r r' : Str} {v : Nat} (h : di_ 2 r = some (v, r')) (hv : ¬ v ≤ r'.length) : dQ_ r = none := by
  unfold dQ_; rw [h, Option.bind_some]; exact lv_ hv
theorem mq_ {r r' : Str} {v : Nat} (h : di_ 2 r = some (v, r')) (hv : v ≤ r'.length) : dQ_ r = some (r'.take v, r'.drop v) := by
  unfold dQ_; rw [h, Option.bind_some]; exact lu_ hv
theorem text_n {r : Str} (h : di_ 2 r = none) : dQ_ r = none := by unfold dQ_; rw [h]; rfl
theorem ob_ {r r' : Str} {v : Nat} (h : di_ 1 r = some (v, r')) : de_ r = some ((v : Int), r') := by unfold de_; rw [h]; rfl
theorem oc_ {r : Str} (h : di_ 1 r = none) : de_ r = none := by unfold de_; rw [h]; rfl
theorem long_t {r r' : Str} {v : Nat} (h : di_ 8 r = some (v, r')) : fd_ r = some (fK_ v, r') := by unfold fd_; rw [h]; rfl
theorem long_n {r : Str} (h : di_ 8 r = none) : fd_ r = none := by unfold fd_; rw [h]; rfl
theorem ez_ {s : Stp} : ek_ s = true ↔ 0 ≤ s.rule ∧ s.rule ≤ 255 ∧ 0 ≤ s.fact.kind ∧ s.fact.kind ≤ 255 ∧ -1 ≤ s.piece ∧ s.piece ≤ 2147483646 ∧ s.frm.length ≤ 255 ∧ (∀ q ∈ s.frm, 0 ≤ q ∧ q ≤ 2147483647) ∧ s.fact.a.length ≤ 65535 ∧ s.fact.b.length ≤ 65535 ∧ s.fact.r.length ≤ 65535 := by
  simp only [ek_, Bool.and_eq_true, decide_eq_true_eq, List.all_eq_true]
theorem dp_ (r : Str) : kH_ r = (eQ_ r).bind fun y => if y.1 ≤ 65536 then (dk_ y.1.toNat y.2).bind fun z => if z.2 = [] then some z.1 else none else none := by
  unfold kH_ eQ_
  cases h : eO_ r with
  | none => rfl
  | some y =>
    simp only [Option.bind_some, Option.map_some, Int.toNat_natCast]
    by_cases hy : y.1 ≤ 65536
    · rw [if_pos hy, if_pos (by omega)]
    · rw [if_neg hy, if_neg (by omega)]
theorem dl_ (r : Str) : fQ_ r = (de_ r).bind fun y1 => (de_ y1.2).bind fun y2 => (dQ_ y2.2).bind fun y3 => (dQ_ y3.2).bind fun y4 => (dQ_ y4.2).bind fun y5 => (fd_ y5.2).bind fun y6 => (fd_ y6.2).bind fun y7 => (eQ_ y7.2).bind fun y8 => (de_ y8.2).bind fun y9 =>
    (ej_ y9.1.toNat y9.2).map fun y => (⟨y1.1, ⟨y2.1, y3.1, y4.1, y5.1, y6.1, y7.1⟩, y8.1 - 1, y.1⟩, y.2) := by
  simp only [fQ_, de_, fd_, eQ_, Option.bind_map, Function.comp_def, Int.toNat_natCast]
theorem kM_ {α β : Type} {f : Str → Option (α × Str)} {val : α → Value} {a : Nat} {cs : List Value} {r : Str} (h : cA_ f val [a] cs r = none) (k : α × Str → Option β) : ((f r).bind fun y1 => k y1) = none := by
  cases h1 : f r with
  | none => rfl
  | some y => simp [cA_, h1] at h
theorem kL_ {α β : Type} {f : Str → Option (α × Str)} {val : α → Value} {a b : Nat} {cs : List Value} {r : Str} (h : cA_ f val [a, b] cs r = none) (k : α × Str → α × Str → Option β) : ((f r).bind fun y1 => (f y1.2).bind fun y2 => k y1 y2) = none := by
  cases h1 : f r with
  | none => rfl
  | some y => exact kM_ (val := val) (a := b) (cs := cs.set a (val y.1)) (by simpa [cA_, h1] using h) (k y)
theorem chain3 {α β : Type} {f : Str → Option (α × Str)} {val : α → Value} {a b c : Nat} {cs : List Value} {r : Str} (h : cA_ f val [a, b, c] cs r = none) (k : α × Str → α × Str → α × Str → Option β) : ((f r).bind fun y1 => (f y1.2).bind fun y2 => (f y2.2).bind fun y3 => k y1 y2 y3) = none := by
  cases h1 : f r with
  | none => rfl
  | some y =>
    refine kL_ (val := val) (a := b) (b := c) (cs := cs.set a (val y.1)) ?_ (k y)
    have h' : cA_ f val [b, c] (cs.set a (val y.1)) y.2 = none := by rw [cA_, h1] at h; exact h
    exact h'
theorem mx_ {r r' : Str} {v : Int} (h : de_ r = some (v, r')) : 0 ≤ v ∧ v ≤ 255 := by
  unfold de_ at h
  cases h1 : di_ 1 r with
  | none => rw [h1] at h; cases h
  | some y =>
    rw [h1] at h
    simp only [Option.map_some, Option.some.injEq, Prod.mk.injEq] at h
    have := gb_ (v := y.1) (r' := y.2) h1
    omega
theorem eP_ {r r' : Str} {v : Int} (h : eQ_ r = some (v, r')) : 0 ≤ v ∧ v ≤ 2147483647 := by
  unfold eQ_ eO_ at h
  cases h1 : di_ 4 r with
  | none => rw [h1] at h; cases h
  | some y =>
    rw [h1, Option.bind_some] at h
    by_cases hy : y.1 ≤ 2147483647
    · rw [if_pos hy] at h
      simp only [Option.map_some, Option.some.injEq, Prod.mk.injEq] at h
      omega
    · rw [if_neg hy] at h; cases h
theorem gv_ (n : Nat) (r : Str) : ej_ (n + 1) r = (eQ_ r).bind fun y => (ej_ n y.2).map fun z => (y.1 :: z.1, z.2) := by
  simp only [ej_, eQ_, Option.bind_map, Function.comp_def]
theorem iq_ {n i : Nat} {l : List Int} {r : Str} {X : Option (List Int × Str)} (hX : X = (ej_ (n - i) r).map fun z => (l ++ z.1, z.2)) (hi : i < n) (h : eQ_ r = none) : X = none := by
  obtain ⟨k, hk⟩ : ∃ k, n - i = k + 1 := ⟨n - i - 1, by omega⟩
  rw [hX, hk, gv_, h]; rfl
theorem gw_ {n i : Nat} {l : List Int} {r r' : Str} {v : Int} {X : Option (List Int × Str)} (hX : X = (ej_ (n - i) r).map fun z => (l ++ z.1, z.2)) (hi : i < n) (h : eQ_ r = some (v, r')) : X = (ej_ (n - (i + 1)) r').map fun z => ((l ++ [v]) ++ z.1, z.2) := by
  obtain ⟨k, hk⟩ : ∃ k, n - i = k + 1 := ⟨n - i - 1, by omega⟩
  rw [hX, hk, show n - (i + 1) = k by omega, gv_, h, Option.bind_some, Option.map_map]
  congr 1
  funext z
  simp
theorem nr_ {n i : Nat} {l : List Int} {r : Str} {X : Option (List Int × Str)} (hX : X = (ej_ (n - i) r).map fun z => (l ++ z.1, z.2)) (hi : n ≤ i) : X = some (l, r) := by
  rw [hX, show n - i = 0 by omega]; simp [ej_]
section
variable {P : Program} {N : Nf} {v0 : Vw} {H0 : Hp} {R : Exit → Act → World → Prop} {K : List Kt} {fr : Fr} {H : Hp} {Γ : List Fct}
variable {ops : Array Oper} {l : List Oper} {d : Nat} {ty : TypeId} {ps : String} {af : Array Edge}
theorem gC_ {t : TypeId} {x y : Operand} {b off : Nat} {cs : List Value} {T : TypeId} {u : Value} {F : Hp} (hs : ∀ w, (sizeOf t).run P w = .ok 1 w)
    (hx : Fr.ev fr x = some (.pointer (some ⟨b, off, none⟩))) (hy : Fr.ev fr y = some u) (hp : H.Perm ((b, .cells cs.toArray T (0, 0)) :: F)) (ho : off < cs.length) (hu : u.cells = #[u]) (h1c : u.oneCell' = true)
    (hk : Ops P R N v0 H0 ops l K fr ((b, .cells (cs.set off u).toArray T (0, 0)) :: F) Γ) :
    Ops P R N v0 H0 ops (⟨none, .store t x y, ty, ps, af, none⟩ :: l) K fr H Γ := by
  refine aZ_ hp (X_ 0 hs hx hy rfl (by rw [hu]; rfl) (Nat.ble_eq_true_of_le (by simp only [List.size_toArray]; omega)) (by rw [hu]; simp [h1c]) ?_)
  have e : (cs.toArray.toList.take off ++ u.cells.toList ++ cs.toArray.toList.drop (off + 1)) = cs.set off u := by
    rw [hu, List.set_eq_take_append_cons_drop, if_pos ho]
    simp
  rw [e]
  exact hk
theorem hE_ : ∀ (l : Str) (s : ByteArray), (l.map fun c => (c.toNat : Int)).foldl (fun r n => r.push (UInt8.ofNat n.toNat)) s = ⟨s.data ++ l.toArray⟩
  | [], s => by simp
  | c :: l, s => by
    rw [List.map_cons, List.foldl_cons, hE_ l]
    have : UInt8.ofNat ((c.toNat : Int).toNat) = c := by simp
    rw [this]
    congr 1
    simp [ByteArray.push]
theorem kT_ (l : Str) : l.flatMap u8C = (l.map fun c => (c.toNat : Int)).map (Value.int .u8) := by
  induction l with
  | nil => rfl
  | cons c l ih => rw [List.flatMap_cons, ih]; rfl
theorem kS_ {t t' e : TypeId} {x : Operand} {ad : Option Addr} {s : Str} {c : Nat} (hs : P.underlying t = some (.slice e)) (he : P.underlying e = some (.int .u8)) (hd : P.underlying t' = some .string)
    (hx : Fr.ev fr x = some (.slice ad s.length c)) (hr : ∀ v, v.sat H → aw_ Γ v → bD_ v ad (s.flatMap u8C)) : Yld P N fr H Γ (.convert t t' x) ty (str s) :=
  fun a v h1 h2 h4 _ _ _ => by
    have hr' := hr v h2 h4
    have key : (convert t t' (.slice ad s.length c)).run P v.w = .ok (str s) v.w := by
      rw [run_convert_bytes_string v.w t t' e ad _ _ hs he hd]
      have hnil : s.flatMap u8C = [] → s = [] := fun q => by
        have := congrArg List.length q
        rw [kT_] at this
        exact List.eq_nil_of_length_eq_zero (by simpa using this)
      cases ad with
      | none =>
        rcases hr' with q | ⟨b, off, arr, T, fz, q, _⟩
        · rw [hnil q]; rfl
        · cases q
      | some a0 =>
        have hl : (loadCells a0 s.length).run P v.w = .ok ((s.map fun c => (c.toNat : Int)).map (Value.int .u8)).toArray v.w := by
          have := run_loadCells_list (P := P) (w := v.w) a0 (s.flatMap u8C) (fun j u hj => by
            rcases hr' with q | ⟨b, off, arr, T, fz, q, _, h3, h5⟩
            · rw [q] at hj; simp at hj
            · rw [Option.some.injEq] at q
              subst q
              have := h5 j u hj
              rw [cB_]
              simp [World.cell?, h3, this])
          rw [kT_] at this
          simpa using this
        rw [run_bytesToString v.w a0 s.length c _ hl, hE_]
        rw [show ByteArray.empty.data = #[] from rfl]
        simp [str]
    simp only [execOp, h1.ev hx, Sem.run_bind, key, Result.andThen_ok, Sem.run_pure]
end
end Go.Sx
namespace Go.Vs
open Go Go.Sx
def I64 (n : Int) : Prop := -9223372036854775808 ≤ n ∧ n ≤ 9223372036854775807
instance (n : Int) : Decidable (I64 n) := by unfold I64; infer_instance
instance (f : Fc) : Decidable f.sml := by unfold Fc.sml; infer_instance
theorem gT_ {n : Int} (h0 : 0 ≤ n) (h : n < 18446744073709551616) : (bits n : Int) = n := by
  unfold bits
  rw [show n.emod 18446744073709551616 = n from Int.emod_eq_of_lt h0 h]
  omega
theorem nG_ {n : Int} (h0 : n < 0) (h : -9223372036854775808 ≤ n) : (bits n : Int) = n + 18446744073709551616 := by
  have e : n.emod 18446744073709551616 = n + 18446744073709551616 := by
    show n % 18446744073709551616 = _
    omega
  unfold bits
  rw [e]; omega
theorem ga_ (n : Int) (k : Nat) (r : Str) : di_ k (ay_ n k ++ r) = some (bits n % 256 ^ k, r) := by
  rw [gu_ (by simp [bI_])]
  have e : (ay_ n k ++ r).take k = ay_ n k := by rw [List.take_left' (bI_ n k)]
  have e2 : (ay_ n k ++ r).drop k = r := by rw [List.drop_left' (bI_ n k)]
  rw [e, e2, kj_]
theorem gp_ {n : Int} (h0 : 0 ≤ n) (h : n ≤ 255) (r : Str) : de_ (ay_ n 1 ++ r) = some (n, r) := by
  have hb := gT_ h0 (by omega)
  unfold de_
  rw [ga_, show bits n % 256 ^ 1 = bits n by rw [Nat.pow_one]; exact Nat.mod_eq_of_lt (by omega)]
  simp [hb]
theorem jc_ {n : Int} (h0 : 0 ≤ n) (h : n ≤ 2147483647) (r : Str) : eQ_ (ay_ n 4 ++ r) = some (n, r) := by
  have hb := gT_ h0 (by omega)
  have e : (256 : Nat) ^ 4 = 4294967296 := by decide
  rw [pj_ (v := bits n) (r' := r) (by rw [ga_, show bits n % 256 ^ 4 = bits n by rw [e]; exact Nat.mod_eq_of_lt (by omega)]) (by omega), hb]
theorem jR_ {n : Int} (h : I64 n) (r : Str) : fd_ (ay_ n 8 ++ r) = some (n, r) := by
  obtain ⟨h1, h2⟩ := h
  have e : (256 : Nat) ^ 8 = 18446744073709551616 := by decide
  unfold fd_
  rw [ga_, e]
  by_cases h0 : 0 ≤ n
  · have hb := gT_ h0 (by omega)
    rw [Nat.mod_eq_of_lt (by omega)]
    simp only [Option.map_some, fK_]
    rw [if_pos (by omega), hb]
  · have hb := nG_ (by omega) h1
    rw [Nat.mod_eq_of_lt (by omega)]
    simp only [Option.map_some, fK_]
    rw [if_neg (by omega), hb]
    congr 2
    omega
theorem gX_ {s : Str} (h : s.length ≤ 65535) (r : Str) : dQ_ (bY_ s ++ r) = some (s, r) := by
  have hb := gT_ (n := (s.length : Int)) (by omega) (by omega)
  have e : (256 : Nat) ^ 2 = 65536 := by decide
  have hi : di_ 2 (bY_ s ++ r) = some (s.length, s ++ r) := by
    rw [bY_, List.append_assoc, ga_, show bits (s.length : Int) % 256 ^ 2 = s.length by rw [e, Nat.mod_eq_of_lt (by omega)]; omega]
  rw [mq_ hi (by simp)]
  simp
theorem jZ_ : ∀ (l : List Int), (∀ q ∈ l, 0 ≤ q ∧ q ≤ 2147483647) → ∀ r : Str, ej_ l.length ((l.flatMap fun q => ay_ q 4) ++ r) = some (l, r)
  | [], _, _ => rfl
  | q :: l, h, r => by
    have hq := h q List.mem_cons_self
    rw [List.length_cons, gv_, List.flatMap_cons, List.append_assoc, jc_ hq.1 hq.2, Option.bind_some, jZ_ l (fun z hz => h z (List.mem_cons_of_mem _ hz)) r]
    rfl
theorem mv_ {s : Stp} (h : ek_ s = true) (hl : I64 s.fact.lo) (hh : I64 s.fact.hi) (r : Str) : fQ_ (cu_ s ++ r) = some (s.ds, r) := by
  obtain ⟨h1, h2, h3, h4, h5, h6, h7, h8, h9, h10, h11⟩ := ez_.1 h
  have e : cu_ s ++ r = ay_ s.rule 1 ++ (ay_ s.fact.kind 1 ++ (bY_ s.fact.a ++ (bY_ s.fact.b ++ (bY_ s.fact.r ++ (ay_ s.fact.lo 8 ++ (ay_ s.fact.hi 8 ++ (ay_ (s.piece + 1) 4 ++ (ay_ (s.frm.length : Int) 1 ++ ((s.frm.flatMap fun q => ay_ q 4) ++ r))))))))) := by
    simp [cu_, List.append_assoc]
  rw [dl_, e]
  simp only [gp_ h1 h2, gp_ h3 h4, gX_ h9, gX_ h10, gX_ h11, jR_ hl, jR_ hh, jc_ (n := s.piece + 1) (by omega) (by omega), gp_ (n := (s.frm.length : Int)) (by omega) (by omega), Option.bind_some, Int.toNat_natCast, jZ_ s.frm h8, Option.map_some]
  rw [show s.piece + 1 - 1 = s.piece by omega]
  rfl
theorem hY_ : ∀ (l : List Stp), (∀ s ∈ l, ek_ s = true ∧ I64 s.fact.lo ∧ I64 s.fact.hi) → ∀ r : Str, dk_ l.length (l.flatMap cu_ ++ r) = some (l.map Stp.ds, r)
  | [], _, _ => rfl
  | s :: l, h, r => by
    have hs := h s List.mem_cons_self
    rw [List.length_cons, dk_, List.flatMap_cons, List.append_assoc, mv_ hs.1 hs.2.1 hs.2.2, Option.bind_some, hY_ l (fun z hz => h z (List.mem_cons_of_mem _ hz)) r]
    rfl
theorem oQ_ {l : List Stp} {b : Str} {e : Int} (h : eA_ l = (b, e)) : (e = 0 ∧ l.length ≤ 65536 ∧ (∀ s ∈ l, ek_ s = true) ∧ b = lV_ l) ∨ (e ≠ 0 ∧ b = [] ∧ ¬ (l.length ≤ 65536 ∧ ∀ s ∈ l, ek_ s = true)) := by
  unfold eA_ at h
  split at h
  · simp only [Prod.mk.injEq] at h
    exact .inr ⟨by omega, h.1.symm, fun q => by omega⟩
  · split at h
    · rename_i h1 h2
      simp only [Prod.mk.injEq] at h
      exact .inl ⟨h.2.symm, by omega, List.all_eq_true.1 h2, h.1.symm⟩
    · rename_i h1 h2
      simp only [Prod.mk.injEq] at h
      exact .inr ⟨by omega, h.1.symm, fun q => h2 (List.all_eq_true.2 q.2)⟩
theorem oT_ {l : List Stp} {b : Str} (h : eA_ l = (b, 0)) (hi : ∀ s ∈ l, I64 s.fact.lo ∧ I64 s.fact.hi) : kH_ b = some (l.map Stp.ds) := by
  rcases oQ_ h with ⟨_, hl, ho, rfl⟩ | ⟨h0, _⟩
  · have e : lV_ l = ay_ (l.length : Int) 4 ++ (l.flatMap cu_ ++ []) := by simp [lV_]
    rw [dp_, e, jc_ (by omega) (by omega), Option.bind_some, if_pos (by omega), Int.toNat_natCast, hY_ l (fun s hs => ⟨ho s hs, hi s hs⟩), Option.bind_some, if_pos rfl]
  · exact absurd rfl h0
structure Fc.lim (f : Fc) : Prop where
  a : f.a.length ≤ 140737488351232
  b : f.b.length ≤ 140737488351232
  r : f.r.length ≤ 140737488351232
structure Pc.lim (p : Pc) : Prop where
  a : p.a.length ≤ 140737488351232
  b : p.b.length ≤ 140737488351232
  c : p.c.length ≤ 140737488351232
  r : p.r.length ≤ 140737488351232
  s : p.s.length ≤ 140737488351232
  t : p.t.length ≤ 140737488351232
def Stp.few (s : Stp) : Prop := s.frm.length ≤ 300 ∧ s.fact.a.length + s.fact.b.length + s.fact.r.length ≤ 1500
theorem Stp.few.sml {s : Stp} (h : s.few) : s.fact.sml := by obtain ⟨_, h⟩ := h; exact ⟨by omega, by omega, by omega⟩
structure SameS (Y Z : List Stp) : Prop where
  len : Y.length = Z.length
  eq : ∀ (i : Nat) s t, Y[i]? = some s → Z[i]? = some t → s.rule = t.rule ∧ s.fact = t.fact ∧ s.piece = t.piece ∧ s.frm = t.frm
theorem mD_ {Y Z : List Stp} (h : Y.map Stp.ds = Z.map Stp.ds) : SameS Y Z := by
  refine ⟨by have := congrArg List.length h; simpa using this, fun i s t hs ht => ?_⟩
  have := congrArg (fun l => l[i]?) h
  simp only [List.getElem?_map, hs, ht, Option.map_some, Option.some.injEq, Stp.ds, Ds.mk.injEq] at this
  exact ⟨this.1, this.2.1, this.2.2.1, this.2.2.2⟩
end Go.Vs
namespace Go.Proofs.YtaffcjgphlhppaaGreatDoor
open Go Go.Sx Go.Proofs
attribute [local irreducible] Code.wp wpList wpAnyH
open Go.Vs
theorem cK_ (s : Str) (hs : s.length ≤ 140737488351232) : Fn0 Tryz.prog 148 #[str s] (.bool (bp_ s)) := by
  refine T_ Tryz.func148 rfl rfl Tryz.ntmps148 rfl fun v0 => ?_
  refine g_ (c_ (a_ (e_ rfl) rfl (d_ (b_ rfl (g_ (c_ (a_ (f_ rfl) rfl (P_ (el_ s hs) rfl B_ (fun _ _ _ => by exact trivial) rfl fun _ => ?_))))))))
  refine E_ (aC_ rfl rfl) rfl fun r1 hr1 => ?_
  refine a_ (e_ rfl) rfl (d_ (b_ rfl (u_ ?_)))
  exact Y_ Tryz.results148 () (s_ rfl (by cases h : bp_ s <;> simp_all)) (.refl _) (fun _ _ _ => trivial)
theorem eB_ (s : Str) (hs : s.length ≤ 140737488351232) : Fn0 Tryz.prog 146 #[str s] (.bool (bf_ s)) := by
 refine T_ Tryz.func146 rfl rfl Tryz.ntmps146 rfl fun v0 => ?_
 refine g_ (c_ (a_ (e_ rfl) rfl (d_ (b_ rfl (g_ (c_ (a_ (f_ rfl) rfl (a_ (bG_ W_ rfl) rfl (a_ (e_ rfl) rfl ?_)))))))))
 refine d_ (b_ rfl (g_ (ae_ (g_ (c_ (a_ (f_ rfl) rfl (E_ (bh_ rfl rfl) rfl fun r1 hr1 => ?_)))))))
 refine a_ (f_ rfl) rfl ?_
 cases r1
 ·
  replace hr1 := ne_of_beq_false hr1
  refine l_ rfl rfl (a_ (f_ rfl) rfl (l_ rfl rfl (E_ (bh_ rfl rfl) rfl fun r2 hr2 => ?_)))
  refine a_ (t_ rfl rfl) rfl (a_ (e_ rfl) rfl (d_ (b_ rfl ?_)))
  cases r2
  ·
   replace hr2 := ne_of_beq_false hr2
   refine y_ rfl (g_ (c_ (a_ (f_ rfl) rfl (E_ (ch_ rfl rfl) rfl fun r3 hr3 => ?_))))
   refine a_ (f_ rfl) rfl ?_
   cases r3
   ·
    replace hr3 := of_decide_eq_false hr3
    refine n_ rfl rfl rfl rfl (n_ rfl rfl rfl rfl (n_ rfl rfl rfl rfl (a_ (t_ rfl rfl) rfl (a_ (f_ rfl) rfl (n_ rfl rfl rfl rfl (n_ rfl rfl rfl rfl (n_ rfl rfl rfl rfl (n_ rfl rfl rfl rfl (n_ rfl rfl rfl rfl ?_)))))))))
    refine a_ (t_ rfl rfl) rfl (a_ (e_ rfl) rfl (d_ (b_ rfl (y_ rfl (g_ (c_ (a_ (f_ rfl) rfl (E_ (ch_ rfl rfl) rfl fun r4 hr4 => ?_))))))))
    refine a_ (f_ rfl) rfl ?_
    cases r4
    ·
     replace hr4 := of_decide_eq_false hr4
     refine n_ rfl rfl rfl rfl (n_ rfl rfl rfl rfl (n_ rfl rfl rfl rfl (a_ (t_ rfl rfl) rfl (a_ (f_ rfl) rfl (n_ rfl rfl rfl rfl (n_ rfl rfl rfl rfl (n_ rfl rfl rfl rfl (n_ rfl rfl rfl rfl (n_ rfl rfl rfl rfl ?_)))))))))
     refine a_ (t_ rfl rfl) rfl (a_ (e_ rfl) rfl (d_ (b_ rfl (y_ rfl (L_ (b_ rfl (g_ (c_ (a_ (f_ rfl) rfl ?_)))))))))
     refine af_ (cK_ _ (by first | exact hs | (simp; omega))) rfl B_ (fun _ _ _ => by exact trivial) rfl fun r5 hr5 => ?_
     refine a_ (e_ rfl) rfl (d_ (b_ rfl (u_ ?_)))
     exact Y_ ca_ () (s_ rfl (by unfold bf_; (repeat (any_goals split)) <;> first | rfl | (simp_all; done) | (exfalso; simp_all; omega) | (exfalso; simp_all; done))) (.refl _) (fun _ _ _ => trivial)
    ·
     replace hr4 := of_decide_eq_true hr4
     exfalso; omega
   ·
    replace hr3 := of_decide_eq_true hr3
    obtain ⟨c, hc⟩ : ∃ c, s[0]? = some c := ⟨_, List.getElem?_eq_getElem (by omega)⟩
    obtain ⟨e, he⟩ : ∃ e, s[s.length - 1]? = some e := ⟨_, List.getElem?_eq_getElem (by omega)⟩
    have hc123 : (s[0]? = some 123) ↔ ((c.toNat : Int) = 123) := by
              rw [hc]; simp only [Option.some.injEq]; exact ⟨fun q => by subst q; rfl, fun q => UInt8.toNat_inj.1 (by show c.toNat = 123; omega)⟩
    have he125 : (s[s.length - 1]? = some 125) ↔ ((e.toNat : Int) = 125) := by
              rw [he]; simp only [Option.some.injEq]; exact ⟨fun q => by subst q; rfl, fun q => UInt8.toNat_inj.1 (by show e.toNat = 125; omega)⟩
    have hc60 : (s[0]? = some 60) ↔ ((c.toNat : Int) = 60) := by
              rw [hc]; simp only [Option.some.injEq]; exact ⟨fun q => by subst q; rfl, fun q => UInt8.toNat_inj.1 (by show c.toNat = 60; omega)⟩
    have he62 : (s[s.length - 1]? = some 62) ↔ ((e.toNat : Int) = 62) := by
              rw [he]; simp only [Option.some.injEq]; exact ⟨fun q => by subst q; rfl, fun q => UInt8.toNat_inj.1 (by show e.toNat = 62; omega)⟩
    refine l_ rfl rfl (a_ (f_ rfl) rfl (l_ rfl rfl (a_ (bQ_ W_ rfl rfl (by decide) hc) rfl (l_ rfl rfl (E_ (aC_ rfl rfl) rfl fun r6 hr6 => ?_)))))
    refine a_ (z_ rfl rfl) rfl (a_ (f_ rfl) rfl ?_)
    cases r6
    ·
     replace hr6 := ne_of_beq_false hr6
     refine n_ rfl rfl rfl rfl (n_ rfl rfl rfl rfl (n_ rfl rfl rfl rfl (n_ rfl rfl rfl rfl (n_ rfl rfl rfl rfl (a_ (t_ rfl rfl) rfl (a_ (e_ rfl) rfl (d_ (b_ rfl (y_ rfl ?_)))))))))
     refine g_ (c_ (a_ (f_ rfl) rfl (E_ (ch_ rfl rfl) rfl fun r7 hr7 => ?_)))
     refine a_ (f_ rfl) rfl ?_
     cases r7
     ·
      replace hr7 := of_decide_eq_false hr7
      refine n_ rfl rfl rfl rfl (n_ rfl rfl rfl rfl (n_ rfl rfl rfl rfl (a_ (t_ rfl rfl) rfl (a_ (f_ rfl) rfl (n_ rfl rfl rfl rfl (n_ rfl rfl rfl rfl (n_ rfl rfl rfl rfl (n_ rfl rfl rfl rfl (n_ rfl rfl rfl rfl ?_)))))))))
      refine a_ (t_ rfl rfl) rfl (a_ (e_ rfl) rfl (d_ (b_ rfl (y_ rfl (L_ (b_ rfl (g_ (c_ (a_ (f_ rfl) rfl ?_)))))))))
      refine af_ (cK_ _ (by first | exact hs | (simp; omega))) rfl B_ (fun _ _ _ => by exact trivial) rfl fun r8 hr8 => ?_
      refine a_ (e_ rfl) rfl (d_ (b_ rfl (u_ ?_)))
      exact Y_ ca_ () (s_ rfl (by unfold bf_; (repeat (any_goals split)) <;> first | rfl | (simp_all; done) | (exfalso; simp_all; omega) | (exfalso; simp_all; done))) (.refl _) (fun _ _ _ => trivial)
     ·
      replace hr7 := of_decide_eq_true hr7
      refine l_ rfl rfl (a_ (f_ rfl) rfl (l_ rfl rfl (a_ (bQ_ W_ rfl rfl (by decide) hc) rfl (l_ rfl rfl (E_ (aC_ rfl rfl) rfl fun r9 hr9 => ?_)))))
      refine a_ (z_ rfl rfl) rfl (a_ (f_ rfl) rfl ?_)
      cases r9
      ·
       replace hr9 := ne_of_beq_false hr9
       refine n_ rfl rfl rfl rfl (n_ rfl rfl rfl rfl (n_ rfl rfl rfl rfl (n_ rfl rfl rfl rfl (n_ rfl rfl rfl rfl (a_ (t_ rfl rfl) rfl (a_ (e_ rfl) rfl (d_ (b_ rfl (y_ rfl ?_)))))))))
       refine L_ (b_ rfl (g_ (c_ (a_ (f_ rfl) rfl (af_ (cK_ _ (by first | exact hs | (simp; omega))) rfl B_ (fun _ _ _ => by exact trivial) rfl fun r10 hr10 => ?_)))))
       refine a_ (e_ rfl) rfl (d_ (b_ rfl (u_ ?_)))
       exact Y_ ca_ () (s_ rfl (by unfold bf_; (repeat (any_goals split)) <;> first | rfl | (simp_all; done) | (exfalso; simp_all; omega) | (exfalso; simp_all; done))) (.refl _) (fun _ _ _ => trivial)
      ·
       replace hr9 := eq_of_beq hr9
       refine l_ rfl rfl (a_ (f_ rfl) rfl (l_ rfl rfl (a_ (f_ rfl) rfl (l_ rfl rfl (a_ (ac_ rfl rfl rfl (aK_ (by omega) (by omega))) rfl (l_ rfl rfl (a_ (bQ_ W_ rfl rfl (by omega) (show s[((s.length : Int) - 1).toNat]? = some e by rw [show ((s.length : Int) - 1).toNat = s.length - 1 by omega]; exact he)) rfl (l_ rfl rfl (E_ (aC_ rfl rfl) rfl fun r11 hr11 => ?_)))))))))
       refine a_ (z_ rfl rfl) rfl (a_ (e_ rfl) rfl (d_ (b_ rfl ?_)))
       cases r11
       ·
        replace hr11 := ne_of_beq_false hr11
        refine y_ rfl (L_ (b_ rfl (g_ (c_ (a_ (f_ rfl) rfl (af_ (cK_ _ (by first | exact hs | (simp; omega))) rfl B_ (fun _ _ _ => by exact trivial) rfl fun r12 hr12 => ?_))))))
        refine a_ (e_ rfl) rfl (d_ (b_ rfl (u_ ?_)))
        exact Y_ ca_ () (s_ rfl (by unfold bf_; (repeat (any_goals split)) <;> first | rfl | (simp_all; done) | (exfalso; simp_all; omega) | (exfalso; simp_all; done))) (.refl _) (fun _ _ _ => trivial)
       ·
        replace hr11 := eq_of_beq hr11
        refine w_ rfl (g_ (c_ (a_ (e_ rfl) rfl (d_ (b_ rfl (u_ ?_))))))
        exact Y_ ca_ () (s_ rfl (by unfold bf_; (repeat (any_goals split)) <;> first | rfl | (simp_all; done) | (exfalso; simp_all; omega) | (exfalso; simp_all; done))) (.refl _) (fun _ _ _ => trivial)
    ·
     replace hr6 := eq_of_beq hr6
     refine l_ rfl rfl (a_ (f_ rfl) rfl (l_ rfl rfl (a_ (f_ rfl) rfl (l_ rfl rfl (a_ (ac_ rfl rfl rfl (aK_ (by omega) (by omega))) rfl (l_ rfl rfl (a_ (bQ_ W_ rfl rfl (by omega) (show s[((s.length : Int) - 1).toNat]? = some e by rw [show ((s.length : Int) - 1).toNat = s.length - 1 by omega]; exact he)) rfl (l_ rfl rfl (E_ (aC_ rfl rfl) rfl fun r13 hr13 => ?_)))))))))
     refine a_ (z_ rfl rfl) rfl (a_ (e_ rfl) rfl (d_ (b_ rfl ?_)))
     cases r13
     ·
      replace hr13 := ne_of_beq_false hr13
      refine y_ rfl (g_ (c_ (a_ (f_ rfl) rfl (E_ (ch_ rfl rfl) rfl fun r14 hr14 => ?_))))
      refine a_ (f_ rfl) rfl ?_
      cases r14
      ·
       replace hr14 := of_decide_eq_false hr14
       refine n_ rfl rfl rfl rfl (n_ rfl rfl rfl rfl (n_ rfl rfl rfl rfl (a_ (t_ rfl rfl) rfl (a_ (f_ rfl) rfl (n_ rfl rfl rfl rfl (n_ rfl rfl rfl rfl (n_ rfl rfl rfl rfl (n_ rfl rfl rfl rfl (n_ rfl rfl rfl rfl ?_)))))))))
       refine a_ (t_ rfl rfl) rfl (a_ (e_ rfl) rfl (d_ (b_ rfl (y_ rfl (L_ (b_ rfl (g_ (c_ (a_ (f_ rfl) rfl ?_)))))))))
       refine af_ (cK_ _ (by first | exact hs | (simp; omega))) rfl B_ (fun _ _ _ => by exact trivial) rfl fun r15 hr15 => ?_
       refine a_ (e_ rfl) rfl (d_ (b_ rfl (u_ ?_)))
       exact Y_ ca_ () (s_ rfl (by unfold bf_; (repeat (any_goals split)) <;> first | rfl | (simp_all; done) | (exfalso; simp_all; omega) | (exfalso; simp_all; done))) (.refl _) (fun _ _ _ => trivial)
      ·
       replace hr14 := of_decide_eq_true hr14
       refine l_ rfl rfl (a_ (f_ rfl) rfl (l_ rfl rfl (a_ (bQ_ W_ rfl rfl (by decide) hc) rfl (l_ rfl rfl (E_ (aC_ rfl rfl) rfl fun r16 hr16 => ?_)))))
       refine a_ (z_ rfl rfl) rfl (a_ (f_ rfl) rfl ?_)
       cases r16
       ·
        replace hr16 := ne_of_beq_false hr16
        refine n_ rfl rfl rfl rfl (n_ rfl rfl rfl rfl (n_ rfl rfl rfl rfl (n_ rfl rfl rfl rfl (n_ rfl rfl rfl rfl (a_ (t_ rfl rfl) rfl (a_ (e_ rfl) rfl (d_ (b_ rfl (y_ rfl ?_)))))))))
        refine L_ (b_ rfl (g_ (c_ (a_ (f_ rfl) rfl (af_ (cK_ _ (by first | exact hs | (simp; omega))) rfl B_ (fun _ _ _ => by exact trivial) rfl fun r17 hr17 => ?_)))))
        refine a_ (e_ rfl) rfl (d_ (b_ rfl (u_ ?_)))
        exact Y_ ca_ () (s_ rfl (by unfold bf_; (repeat (any_goals split)) <;> first | rfl | (simp_all; done) | (exfalso; simp_all; omega) | (exfalso; simp_all; done))) (.refl _) (fun _ _ _ => trivial)
       ·
        replace hr16 := eq_of_beq hr16
        refine l_ rfl rfl (a_ (f_ rfl) rfl (l_ rfl rfl (a_ (f_ rfl) rfl (l_ rfl rfl (a_ (ac_ rfl rfl rfl (aK_ (by omega) (by omega))) rfl (l_ rfl rfl (a_ (bQ_ W_ rfl rfl (by omega) (show s[((s.length : Int) - 1).toNat]? = some e by rw [show ((s.length : Int) - 1).toNat = s.length - 1 by omega]; exact he)) rfl (l_ rfl rfl (E_ (aC_ rfl rfl) rfl fun r18 hr18 => ?_)))))))))
        refine a_ (z_ rfl rfl) rfl (a_ (e_ rfl) rfl (d_ (b_ rfl ?_)))
        cases r18
        ·
         replace hr18 := ne_of_beq_false hr18
         refine y_ rfl (L_ (b_ rfl (g_ (c_ (a_ (f_ rfl) rfl (af_ (cK_ _ (by first | exact hs | (simp; omega))) rfl B_ (fun _ _ _ => by exact trivial) rfl fun r19 hr19 => ?_))))))
         refine a_ (e_ rfl) rfl (d_ (b_ rfl (u_ ?_)))
         exact Y_ ca_ () (s_ rfl (by unfold bf_; (repeat (any_goals split)) <;> first | rfl | (simp_all; done) | (exfalso; simp_all; omega) | (exfalso; simp_all; done))) (.refl _) (fun _ _ _ => trivial)
        ·
         replace hr18 := eq_of_beq hr18
         refine w_ rfl (g_ (c_ (a_ (e_ rfl) rfl (d_ (b_ rfl (u_ ?_))))))
         exact Y_ ca_ () (s_ rfl (by unfold bf_; (repeat (any_goals split)) <;> first | rfl | (simp_all; done) | (exfalso; simp_all; omega) | (exfalso; simp_all; done))) (.refl _) (fun _ _ _ => trivial)
     ·
      replace hr13 := eq_of_beq hr13
      refine w_ rfl (g_ (c_ (a_ (f_ rfl) rfl (a_ (f_ rfl) rfl (a_ (ac_ rfl rfl rfl (aK_ (by omega) (by omega))) rfl (a_ (dr_ (i := 1) (j := s.length - 1) (kl := .i64) (kh := .i64) W_ rfl rfl (show _ = some (Value.int .i64 ((s.length - 1 : Nat) : Int)) by rw [show ((s.length - 1 : Nat) : Int) = (s.length : Int) - 1 by omega]; rfl) (by omega) (by omega)) rfl (af_ (cK_ _ (by first | exact hs | (simp; omega))) rfl B_ (fun _ _ _ => by exact trivial) rfl fun r20 hr20 => ?_)))))))
      refine a_ (e_ rfl) rfl (d_ (b_ rfl (u_ ?_)))
      exact Y_ ca_ () (s_ rfl (by unfold bf_; (repeat (any_goals split)) <;> first | rfl | (simp_all; done) | (exfalso; simp_all; omega) | (exfalso; simp_all; done))) (.refl _) (fun _ _ _ => trivial)
  ·
   replace hr2 := eq_of_beq hr2
   refine w_ rfl (g_ (c_ (a_ (e_ rfl) rfl (d_ (b_ rfl (u_ ?_))))))
   exact Y_ ca_ () (s_ rfl (by unfold bf_; (repeat (any_goals split)) <;> first | rfl | (simp_all; done) | (exfalso; simp_all; omega) | (exfalso; simp_all; done))) (.refl _) (fun _ _ _ => trivial)
 ·
  replace hr1 := eq_of_beq hr1
  refine n_ rfl rfl rfl rfl (n_ rfl rfl rfl rfl (a_ (z_ rfl rfl) rfl (a_ (e_ rfl) rfl (d_ (b_ rfl (w_ rfl (g_ (c_ (a_ (e_ rfl) rfl ?_)))))))))
  refine d_ (b_ rfl (u_ ?_))
  exact Y_ ca_ () (s_ rfl (by unfold bf_; (repeat (any_goals split)) <;> first | rfl | (simp_all; done) | (exfalso; simp_all; omega) | (exfalso; simp_all; done))) (.refl _) (fun _ _ _ => trivial)
theorem lZ_ (s : Str) (hs : s.length ≤ 17592186044414) : Fn0 Tryz.prog 147 #[str s] (.bool (cE_ s)) := by
  refine T_ Tryz.func147 rfl rfl Tryz.ntmps147 rfl fun v0 => ?_
  have hsl := cH_ 46 s
  have hcl := gi_ 46 s
  refine g_ (c_ (a_ (e_ rfl) rfl (d_ (b_ rfl (g_ (c_ (a_ (f_ rfl) rfl (P_ (kX_ s 46 hs) rfl B_ (fun _ _ _ => by exact trivial) rfl fun b => ?_))))))))
  refine a_ (e_ rfl) rfl (d_ (b_ rfl (g_ (g_ (c_ (a_ (f_ rfl) rfl (a_ (aB_ aD_ rfl) rfl (a_ (f_ rfl) rfl (d_ ?_)))))))))
  refine b_ rfl (ae_ ?_)
  refine bz_ (ι := {y : Nat // y ≤ List.length (bg_ 46 s) ∧ (List.any (List.take y (bg_ 46 s)) fun r => !bp_ r) = false}) (fun y => [(2, .bool false), (3, .slice (some ⟨b, 0, none⟩) (List.length (bg_ 46 s)) ((bg_ 46 s).length)), (8, .slice (some ⟨b, 0, none⟩) (List.length (bg_ 46 s)) ((bg_ 46 s).length)), (9, .int .i64 (List.length (bg_ 46 s) : Int)), (10, .int .i64 (y.1 : Int))]) (fun y => ([])) (fun y => [aR_ (some ⟨b, 0, none⟩) (List.flatMap cX_ (bg_ 46 s))]) (fun y => List.length (bg_ 46 s) - y.1) ⟨(0 : Nat), by simp, by simp⟩ ⟨rfl, rfl, rfl, rfl, rfl, trivial⟩ B_ (fun _ _ h => h) ?_
  rintro ⟨i, hi_i, hA⟩
  dsimp only at hi_i hA ⊢
  refine g_ (c_ (E_ (au_ rfl rfl) rfl fun r1 hr1 => ?_))
  refine d_ (b_ rfl (g_ ?_))
  cases r1
  · skip
    replace hr1 := of_decide_eq_false hr1
    refine y_ rfl (bi_ rfl (b_ rfl (g_ (c_ (a_ (f_ rfl) rfl (a_ (aB_ aD_ rfl) rfl (E_ (bX_ rfl rfl) rfl fun r2 hr2 => ?_)))))))
    refine a_ (e_ rfl) rfl (d_ (b_ rfl (u_ ?_)))
    exact Y_ Tryz.results147 () (s_ rfl (by unfold cE_; rw [show (bg_ 46 s).any (fun r => !bp_ r) = false from by have q := hA; rw [List.take_of_length_le (by omega)] at q; exact q]; subst_vars; rw [Bool.eq_iff_iff]; simp <;> omega)) B_ (fun _ _ _ => trivial)
  · skip
    replace hr1 := of_decide_eq_true hr1
    have hlx1 : i < List.length (bg_ 46 s) := by omega
    obtain ⟨x1, hx1⟩ : ∃ e0, (bg_ 46 s)[i]? = some e0 := ⟨_, List.getElem?_eq_getElem hlx1⟩
    have hmx1 : x1 ∈ (bg_ 46 s) := List.mem_of_getElem? hx1
    refine w_ rfl (L_ (b_ rfl (g_ (ae_ (g_ (c_ (a_ (ah_ aD_ x_ rfl rfl (fun v _ h => aN_ (n := 1) bZ_ (by decide) (by exact h.1) hx1) (by omega) (by first | omega | (simp; done))) rfl (a_ (bj_ (ad := (some ⟨b, 0, none⟩)) F_ rfl (fun v _ h => by exact h.1) (ak_ bZ_ hx1 0 _ rfl)) rfl (a_ (e_ rfl) rfl ?_)))))))))
    refine d_ (b_ rfl (g_ (c_ (a_ (f_ rfl) rfl (af_ (cK_ x1 (by have := dR_ hmx1; omega)) rfl B_ (fun _ _ _ => by exact trivial) rfl fun r3 hr3 => ?_)))))
    refine a_ (bo_ rfl) rfl (d_ (b_ rfl ?_))
    cases r3
    · skip
      refine w_ rfl (g_ (c_ (a_ (e_ rfl) rfl (d_ (b_ rfl (u_ ?_))))))
      exact Y_ Tryz.results147 () (s_ rfl (by unfold cE_; rw [show (bg_ 46 s).any (fun r => !bp_ r) = true from List.any_eq_true.2 ⟨x1, hmx1, by simp [*]⟩]; simp)) B_ (fun _ _ _ => trivial)
    · skip
      refine y_ rfl (L_ (b_ rfl (c_ (a_ (ac_ rfl rfl rfl (aK_ (by omega) (by omega))) rfl (a_ (f_ rfl) rfl (d_ (q_ rfl ?_)))))))
      exact aO_ ⟨i + 1, hlx1, by rw [List.take_add_one, hx1]; simp only [Option.toList_some, List.any_append, hA]; simp [*]⟩ (by dsimp only; omega) ⟨rfl, rfl, rfl, rfl, rfl, trivial⟩ B_ (fun _ _ h => h)
theorem by_ (a b : Str) : Fn0 Tryz.prog 129 #[str a, str b] (Fc.val (aE_ a b)) := by
  refine T_ Tryz.func129 rfl rfl Tryz.ntmps129 rfl fun v0 => ?_
  refine g_ (c_ (ad_ aS_ rfl fun b1 => ?_))
  refine d_ (b_ rfl (g_ (c_ (a_ (f_ rfl) rfl (a_ (f_ rfl) rfl (a_ (ax_ fA_ rfl rfl) rfl (X_ 0 k_ rfl rfl rfl rfl rfl rfl (d_ (b_ rfl ?_)))))))))
  refine u_ ?_
  exact fB_ () (fun aa v h1 h2 => ck_ (us := Fc.cells (aE_ a b)) 0 Tryz.results129 R_ k_ rfl rfl rfl aa v h1 h2) B_ (fun _ _ _ => trivial)
theorem dx_ (a r b : Str) : Fn0 Tryz.prog 134 #[str a, str r, str b] (Fc.val (bq_ a r b)) := by
  refine T_ Tryz.func134 rfl rfl Tryz.ntmps134 rfl fun v0 => ?_
  refine g_ (c_ (ad_ aS_ rfl fun b1 => ?_))
  refine d_ (b_ rfl (g_ (c_ (a_ (f_ rfl) rfl (a_ (f_ rfl) rfl (a_ (f_ rfl) rfl (a_ (ax_ fA_ rfl rfl) rfl (X_ 0 k_ rfl rfl rfl rfl rfl rfl (d_ ?_)))))))))
  refine b_ rfl (u_ ?_)
  exact fB_ () (fun aa v h1 h2 => ck_ (us := Fc.cells (bq_ a r b)) 0 Tryz.results134 R_ k_ rfl rfl rfl aa v h1 h2) B_ (fun _ _ _ => trivial)
theorem dL_ (a r : Str) (lo hi : Int) : Fn0 Tryz.prog 149 #[str a, str r, .int .i64 lo, .int .i64 hi] (Fc.val (aj_ a r lo hi)) := by
  refine T_ Tryz.func149 rfl rfl Tryz.ntmps149 rfl fun v0 => ?_
  refine g_ (c_ (ad_ aS_ rfl fun b1 => ?_))
  refine d_ (b_ rfl (g_ (c_ (a_ (f_ rfl) rfl (a_ (f_ rfl) rfl (a_ (f_ rfl) rfl (a_ (f_ rfl) rfl (a_ (ax_ fA_ rfl rfl) rfl (X_ 0 k_ rfl rfl rfl rfl rfl rfl ?_)))))))))
  refine d_ (b_ rfl (u_ ?_))
  exact fB_ () (fun aa v h1 h2 => ck_ (us := Fc.cells (aj_ a r lo hi)) 0 Tryz.results149 R_ k_ rfl rfl rfl aa v h1 h2) B_ (fun _ _ _ => trivial)
theorem pi_ (f : Fc) (hsm : f.sml) : Fn0 Tryz.prog 75 #[Fc.val f] (.bool (wf2 f)) := by
 refine T_ Tryz.func75 rfl rfl Tryz.ntmps75 rfl fun v0 => ?_
 obtain ⟨hsa, hsb, hsr⟩ := hsm
 refine g_ (c_ (aL_ rfl rfl fun b1 => ?_))
 refine a_ (e_ rfl) rfl (d_ (b_ rfl (g_ (g_ (c_ (a_ (h_ o_ rfl rfl rfl r_) rfl (a_ (m_ 0 C_ rfl rfl rfl) rfl (d_ (b_ rfl ?_)))))))))
 refine ae_ (g_ (c_ (E_ (aC_ rfl rfl) rfl fun r1 hr1 => ?_)))
 refine a_ (e_ rfl) rfl (d_ (b_ rfl ?_))
 cases r1
 ·
  replace hr1 := ne_of_beq_false hr1
  refine y_ rfl (g_ (c_ (E_ (aC_ rfl rfl) rfl fun r2 hr2 => ?_)))
  refine a_ (e_ rfl) rfl (d_ (b_ rfl ?_))
  cases r2
  ·
   replace hr2 := ne_of_beq_false hr2
   refine y_ rfl (g_ (c_ (E_ (aC_ rfl rfl) rfl fun r3 hr3 => ?_)))
   refine a_ (e_ rfl) rfl (d_ (b_ rfl ?_))
   cases r3
   ·
    replace hr3 := ne_of_beq_false hr3
    refine y_ rfl (L_ (b_ rfl (g_ (c_ (a_ (e_ rfl) rfl (d_ (b_ rfl (u_ ?_))))))))
    exact Y_ bR_ () (s_ rfl (by have p1 := eq_false hr1; have p2 := eq_false hr2; have p3 := eq_false hr3; simp only [wf2, p1, p2, p3, if_true, if_false, decide_true, decide_false, Bool.and_true, Bool.and_false, Bool.true_and, Bool.false_and, Bool.or_true, Bool.or_false, Bool.true_or, Bool.false_or, Bool.not_true, Bool.not_false, ne_eq, not_true_eq_false, not_false_eq_true, true_and, and_true, false_and, and_false, true_or, or_true, false_or, or_false, ite_true, ite_false, Bool.false_eq_true])) B_ (fun _ _ _ => trivial)
   ·
    replace hr3 := eq_of_beq hr3
    refine w_ rfl (g_ ?_)
    refine aI_ (by kernel_rfl) ?_
    refine K_ 37 [0, 1] (by kernel_rfl) (fun _ a b => ⟨a, b⟩) (j_ rfl (h_ o_ rfl rfl rfl x_) rfl (j_ rfl (m_ 0 F_ rfl rfl rfl) rfl (J_ (I_ 2 rfl (by kernel_rfl) (af_ (eB_ (Fc.a f) (by omega)) rfl B_ (fun _ _ _ => by exact trivial) rfl fun r4 hr4 => ?_)))))
    refine d_ (q_ rfl (A_ (fun _ a b => ⟨a, b⟩) (K_ 35 [3] (by kernel_rfl) (fun _ a b => ⟨a, b⟩) (j_ rfl (f_ rfl) rfl (J_ ?_)))))
    cases r4
    ·
     refine K_ 0 [4, 5, 6, 7, 8, 9, 10, 11, 12, 13, 14, 15, 16, 17, 18, 19, 20, 21, 22, 23, 24, 25, 26, 27, 28, 29, 30, 31, 32, 33, 34, 35, 36, 37, 38] (by kernel_rfl) (fun _ a b => ⟨a, b⟩) (v_ rfl rfl rfl rfl rfl (v_ rfl rfl rfl rfl rfl (v_ rfl rfl rfl rfl rfl (j_ rfl (t_ rfl rfl) rfl (j_ rfl (f_ rfl) rfl (v_ rfl rfl rfl rfl rfl (v_ rfl rfl rfl rfl rfl (v_ rfl rfl rfl rfl rfl (v_ rfl rfl rfl rfl rfl ?_)))))))))
     refine v_ rfl rfl rfl rfl rfl (v_ rfl rfl rfl rfl rfl (v_ rfl rfl rfl rfl rfl (v_ rfl rfl rfl rfl rfl (v_ rfl rfl rfl rfl rfl (v_ rfl rfl rfl rfl rfl (v_ rfl rfl rfl rfl rfl (j_ rfl (t_ rfl rfl) rfl (j_ rfl (f_ rfl) rfl (v_ rfl rfl rfl rfl rfl ?_)))))))))
     refine v_ rfl rfl rfl rfl rfl (v_ rfl rfl rfl rfl rfl (j_ rfl (t_ rfl rfl) rfl (j_ rfl (f_ rfl) rfl (v_ rfl rfl rfl rfl rfl (v_ rfl rfl rfl rfl rfl (v_ rfl rfl rfl rfl rfl (v_ rfl rfl rfl rfl rfl (v_ rfl rfl rfl rfl rfl (j_ rfl (t_ rfl rfl) rfl ?_)))))))))
     refine j_ rfl (f_ rfl) rfl (v_ rfl rfl rfl rfl rfl (v_ rfl rfl rfl rfl rfl (v_ rfl rfl rfl rfl rfl (j_ rfl (t_ rfl rfl) rfl (j_ rfl (e_ rfl) rfl (J_ (S_ (by kernel_rfl) (b_ rfl (u_ ?_)))))))))
     exact Y_ bR_ () (s_ rfl (by have p1 := eq_false hr1; have p2 := eq_false hr2; have p3 := eq_true hr3; simp only [wf2, p1, p2, p3, hr4, if_true, if_false, decide_true, decide_false, Bool.and_true, Bool.and_false, Bool.true_and, Bool.false_and, Bool.or_true, Bool.or_false, Bool.true_or, Bool.false_or, Bool.not_true, Bool.not_false, ne_eq, not_true_eq_false, not_false_eq_true, true_and, and_true, false_and, and_false, true_or, or_true, false_or, or_false, ite_true, ite_false, Bool.false_eq_true])) B_ (fun _ _ _ => trivial)
    ·
     refine K_ 33 [4, 5] (by kernel_rfl) (fun _ a b => ⟨a, b⟩) (p_ rfl rfl rfl (h_ o_ rfl rfl rfl x_) rfl (p_ rfl rfl rfl (m_ 0 F_ rfl rfl rfl) rfl (J_ (I_ 6 rfl (by kernel_rfl) (l_ rfl rfl (af_ (cK_ (Fc.r f) (by omega)) rfl B_ (fun _ _ _ => by exact trivial) rfl fun r5 hr5 => ?_))))))
     refine d_ (q_ rfl (A_ (fun _ a b => ⟨a, b⟩) (K_ 30 [7, 8] (by kernel_rfl) (fun _ a b => ⟨a, b⟩) (j_ rfl (z_ rfl rfl) rfl (j_ rfl (f_ rfl) rfl (J_ ?_))))))
     cases r5
     ·
      refine K_ 0 [9, 10, 11, 12, 13, 14, 15, 16, 17, 18, 19, 20, 21, 22, 23, 24, 25, 26, 27, 28, 29, 30, 31, 32, 33, 34, 35, 36, 37, 38] (by kernel_rfl) (fun _ a b => ⟨a, b⟩) (v_ rfl rfl rfl rfl rfl (v_ rfl rfl rfl rfl rfl (v_ rfl rfl rfl rfl rfl (v_ rfl rfl rfl rfl rfl (v_ rfl rfl rfl rfl rfl (v_ rfl rfl rfl rfl rfl (v_ rfl rfl rfl rfl rfl (v_ rfl rfl rfl rfl rfl (v_ rfl rfl rfl rfl rfl ?_)))))))))
      refine v_ rfl rfl rfl rfl rfl (v_ rfl rfl rfl rfl rfl (j_ rfl (t_ rfl rfl) rfl (j_ rfl (f_ rfl) rfl (v_ rfl rfl rfl rfl rfl (v_ rfl rfl rfl rfl rfl (v_ rfl rfl rfl rfl rfl (j_ rfl (t_ rfl rfl) rfl (j_ rfl (f_ rfl) rfl (v_ rfl rfl rfl rfl rfl ?_)))))))))
      refine v_ rfl rfl rfl rfl rfl (v_ rfl rfl rfl rfl rfl (v_ rfl rfl rfl rfl rfl (v_ rfl rfl rfl rfl rfl (j_ rfl (t_ rfl rfl) rfl (j_ rfl (f_ rfl) rfl (v_ rfl rfl rfl rfl rfl (v_ rfl rfl rfl rfl rfl (v_ rfl rfl rfl rfl rfl (j_ rfl (t_ rfl rfl) rfl ?_)))))))))
      refine j_ rfl (e_ rfl) rfl (J_ (S_ (by kernel_rfl) (b_ rfl (u_ ?_))))
      exact Y_ bR_ () (s_ rfl (by have p1 := eq_false hr1; have p2 := eq_false hr2; have p3 := eq_true hr3; simp only [wf2, p1, p2, p3, hr4, hr5, if_true, if_false, decide_true, decide_false, Bool.and_true, Bool.and_false, Bool.true_and, Bool.false_and, Bool.or_true, Bool.or_false, Bool.true_or, Bool.false_or, Bool.not_true, Bool.not_false, ne_eq, not_true_eq_false, not_false_eq_true, true_and, and_true, false_and, and_false, true_or, or_true, false_or, or_false, ite_true, ite_false, Bool.false_eq_true])) B_ (fun _ _ _ => trivial)
     ·
      refine K_ 21 [9, 10, 11, 12, 13, 14, 15, 16, 17] (by kernel_rfl) (fun _ a b => ⟨a, b⟩) (p_ rfl rfl rfl (O_ 0 R_ k_ rfl rfl rfl) rfl (p_ rfl rfl rfl (h_ o_ rfl rfl rfl x_) rfl (p_ rfl rfl rfl (m_ 0 F_ rfl rfl rfl) rfl (p_ rfl rfl rfl (h_ o_ rfl rfl rfl x_) rfl (p_ rfl rfl rfl (m_ 0 F_ rfl rfl rfl) rfl (p_ rfl rfl rfl (h_ o_ rfl rfl rfl r_) rfl (p_ rfl rfl rfl (m_ 0 C_ rfl rfl rfl) rfl (p_ rfl rfl rfl (h_ o_ rfl rfl rfl r_) rfl (p_ rfl rfl rfl (m_ 0 C_ rfl rfl rfl) rfl ?_)))))))))
      refine J_ (I_ 18 rfl (by kernel_rfl) (l_ rfl rfl (P_ (dL_ (Fc.a f) (Fc.r f) (Fc.lo f) (Fc.hi f)) rfl B_ (fun _ _ _ => by exact trivial) rfl fun _ => ?_)))
      refine d_ (q_ rfl (A_ (fun _ a b => ⟨a, b⟩) (K_ 17 [19, 20, 21] (by kernel_rfl) (fun _ a b => ⟨a, b⟩) ?_)))
      refine ar_ rfl rfl rfl (ap_ (p := f) (q := (aj_ (Fc.a f) (Fc.r f) (Fc.lo f) (Fc.hi f))) rfl rfl) rfl fun r6 hr6 => ?_
      refine j_ rfl (z_ rfl rfl) rfl (j_ rfl (f_ rfl) rfl (J_ ?_))
      cases r6
      ·
       replace hr6 := of_decide_eq_false hr6
       refine K_ 0 [22, 23, 24, 25, 26, 27, 28, 29, 30, 31, 32, 33, 34, 35, 36, 37, 38] (by kernel_rfl) (fun _ a b => ⟨a, b⟩) (v_ rfl rfl rfl rfl rfl (v_ rfl rfl rfl rfl rfl (v_ rfl rfl rfl rfl rfl (j_ rfl (t_ rfl rfl) rfl (j_ rfl (f_ rfl) rfl (v_ rfl rfl rfl rfl rfl (v_ rfl rfl rfl rfl rfl (v_ rfl rfl rfl rfl rfl (v_ rfl rfl rfl rfl rfl ?_)))))))))
       refine v_ rfl rfl rfl rfl rfl (j_ rfl (t_ rfl rfl) rfl (j_ rfl (f_ rfl) rfl (v_ rfl rfl rfl rfl rfl (v_ rfl rfl rfl rfl rfl (v_ rfl rfl rfl rfl rfl (j_ rfl (t_ rfl rfl) rfl (j_ rfl (e_ rfl) rfl (J_ (S_ (by kernel_rfl) ?_)))))))))
       refine b_ rfl (u_ ?_)
       exact Y_ bR_ () (s_ rfl (by have p1 := eq_false hr1; have p2 := eq_false hr2; have p3 := eq_true hr3; have p6 := eq_false hr6; simp only [wf2, p1, p2, p3, hr4, hr5, p6, if_true, if_false, decide_true, decide_false, Bool.and_true, Bool.and_false, Bool.true_and, Bool.false_and, Bool.or_true, Bool.or_false, Bool.true_or, Bool.false_or, Bool.not_true, Bool.not_false, ne_eq, not_true_eq_false, not_false_eq_true, true_and, and_true, false_and, and_false, true_or, or_true, false_or, or_false, ite_true, ite_false, Bool.false_eq_true])) B_ (fun _ _ _ => trivial)
      ·
       replace hr6 := of_decide_eq_true hr6
       refine K_ 12 [22, 23, 24, 25, 26] (by kernel_rfl) (fun _ a b => ⟨a, b⟩) (p_ rfl rfl rfl (h_ o_ rfl rfl rfl r_) rfl (p_ rfl rfl rfl (m_ 0 C_ rfl rfl rfl) rfl ?_))
       refine ar_ rfl rfl rfl (bX_ rfl rfl) rfl fun r7 hr7 => ?_
       refine j_ rfl (z_ rfl rfl) rfl (j_ rfl (f_ rfl) rfl (J_ ?_))
       cases r7
       ·
        replace hr7 := of_decide_eq_false hr7
        refine K_ 0 [27, 28, 29, 30, 31, 32, 33, 34, 35, 36, 37, 38] (by kernel_rfl) (fun _ a b => ⟨a, b⟩) (v_ rfl rfl rfl rfl rfl (v_ rfl rfl rfl rfl rfl (v_ rfl rfl rfl rfl rfl (v_ rfl rfl rfl rfl rfl (v_ rfl rfl rfl rfl rfl (j_ rfl (t_ rfl rfl) rfl (j_ rfl (f_ rfl) rfl (v_ rfl rfl rfl rfl rfl (v_ rfl rfl rfl rfl rfl ?_)))))))))
        refine v_ rfl rfl rfl rfl rfl (j_ rfl (t_ rfl rfl) rfl (j_ rfl (e_ rfl) rfl (J_ (S_ (by kernel_rfl) (b_ rfl (u_ ?_))))))
        exact Y_ bR_ () (s_ rfl (by have p1 := eq_false hr1; have p2 := eq_false hr2; have p3 := eq_true hr3; have p6 := eq_true hr6; have p7 := eq_false hr7; simp only [wf2, p1, p2, p3, hr4, hr5, p6, p7, if_true, if_false, decide_true, decide_false, Bool.and_true, Bool.and_false, Bool.true_and, Bool.false_and, Bool.or_true, Bool.or_false, Bool.true_or, Bool.false_or, Bool.not_true, Bool.not_false, ne_eq, not_true_eq_false, not_false_eq_true, true_and, and_true, false_and, and_false, true_or, or_true, false_or, or_false, ite_true, ite_false, Bool.false_eq_true])) B_ (fun _ _ _ => trivial)
       ·
        replace hr7 := of_decide_eq_true hr7
        refine K_ 5 [27, 28, 29, 30, 31, 32, 33] (by kernel_rfl) (fun _ a b => ⟨a, b⟩) (p_ rfl rfl rfl (h_ o_ rfl rfl rfl r_) rfl (p_ rfl rfl rfl (m_ 0 C_ rfl rfl rfl) rfl (p_ rfl rfl rfl (h_ o_ rfl rfl rfl r_) rfl (p_ rfl rfl rfl (m_ 0 C_ rfl rfl rfl) rfl ?_))))
        refine ar_ rfl rfl rfl (bX_ rfl rfl) rfl fun r8 hr8 => ?_
        refine j_ rfl (z_ rfl rfl) rfl (j_ rfl (f_ rfl) rfl (J_ ?_))
        cases r8
        ·
         replace hr8 := of_decide_eq_false hr8
         refine K_ 0 [34, 35, 36, 37, 38] (by kernel_rfl) (fun _ a b => ⟨a, b⟩) (v_ rfl rfl rfl rfl rfl (v_ rfl rfl rfl rfl rfl (v_ rfl rfl rfl rfl rfl (j_ rfl (t_ rfl rfl) rfl (j_ rfl (e_ rfl) rfl (J_ (S_ (by kernel_rfl) (b_ rfl (u_ ?_)))))))))
         exact Y_ bR_ () (s_ rfl (by have p1 := eq_false hr1; have p2 := eq_false hr2; have p3 := eq_true hr3; have p6 := eq_true hr6; have p7 := eq_true hr7; have p8 := eq_false hr8; simp only [wf2, p1, p2, p3, hr4, hr5, p6, p7, p8, if_true, if_false, decide_true, decide_false, Bool.and_true, Bool.and_false, Bool.true_and, Bool.false_and, Bool.or_true, Bool.or_false, Bool.true_or, Bool.false_or, Bool.not_true, Bool.not_false, ne_eq, not_true_eq_false, not_false_eq_true, true_and, and_true, false_and, and_false, true_or, or_true, false_or, or_false, ite_true, ite_false, Bool.false_eq_true])) B_ (fun _ _ _ => trivial)
        ·
         replace hr8 := of_decide_eq_true hr8
         refine K_ 0 [34, 35, 36, 37, 38] (by kernel_rfl) (fun _ a b => ⟨a, b⟩) (p_ rfl rfl rfl (h_ o_ rfl rfl rfl r_) rfl (p_ rfl rfl rfl (m_ 0 C_ rfl rfl rfl) rfl ?_))
         refine ar_ rfl rfl rfl (bX_ rfl rfl) rfl fun r9 hr9 => ?_
         refine j_ rfl (z_ rfl rfl) rfl (j_ rfl (e_ rfl) rfl (J_ (S_ (by kernel_rfl) (b_ rfl (u_ ?_)))))
         exact Y_ bR_ () (s_ rfl (by have p1 := eq_false hr1; have p2 := eq_false hr2; have p3 := eq_true hr3; have p6 := eq_true hr6; have p7 := eq_true hr7; have p8 := eq_true hr8; rw [← hr9]; simp only [wf2, p1, p2, p3, hr4, hr5, p6, p7, p8, if_true, if_false, decide_true, decide_false, Bool.and_true, Bool.and_false, Bool.true_and, Bool.false_and, Bool.or_true, Bool.or_false, Bool.true_or, Bool.false_or, Bool.not_true, Bool.not_false, ne_eq, not_true_eq_false, not_false_eq_true, true_and, and_true, false_and, and_false, true_or, or_true, false_or, or_false, ite_true, ite_false, Bool.false_eq_true])) B_ (fun _ _ _ => trivial)
  ·
   replace hr2 := eq_of_beq hr2
   refine w_ rfl (g_ ?_)
   refine aI_ (by kernel_rfl) ?_
   refine K_ 23 [0, 1] (by kernel_rfl) (fun _ a b => ⟨a, b⟩) (j_ rfl (h_ o_ rfl rfl rfl x_) rfl (j_ rfl (m_ 0 F_ rfl rfl rfl) rfl (J_ (I_ 2 rfl (by kernel_rfl) (af_ (eB_ (Fc.a f) (by omega)) rfl B_ (fun _ _ _ => by exact trivial) rfl fun r10 hr10 => ?_)))))
   refine d_ (q_ rfl (A_ (fun _ a b => ⟨a, b⟩) (K_ 21 [3] (by kernel_rfl) (fun _ a b => ⟨a, b⟩) (j_ rfl (f_ rfl) rfl (J_ ?_)))))
   cases r10
   ·
    refine K_ 0 [4, 5, 6, 7, 8, 9, 10, 11, 12, 13, 14, 15, 16, 17, 18, 19, 20, 21, 22, 23, 24] (by kernel_rfl) (fun _ a b => ⟨a, b⟩) (v_ rfl rfl rfl rfl rfl (v_ rfl rfl rfl rfl rfl (v_ rfl rfl rfl rfl rfl (j_ rfl (t_ rfl rfl) rfl (j_ rfl (f_ rfl) rfl (v_ rfl rfl rfl rfl rfl (v_ rfl rfl rfl rfl rfl (v_ rfl rfl rfl rfl rfl (j_ rfl (t_ rfl rfl) rfl ?_)))))))))
    refine j_ rfl (f_ rfl) rfl (v_ rfl rfl rfl rfl rfl (v_ rfl rfl rfl rfl rfl (v_ rfl rfl rfl rfl rfl (v_ rfl rfl rfl rfl rfl (v_ rfl rfl rfl rfl rfl (v_ rfl rfl rfl rfl rfl (v_ rfl rfl rfl rfl rfl (v_ rfl rfl rfl rfl rfl (v_ rfl rfl rfl rfl rfl ?_)))))))))
    refine j_ rfl (t_ rfl rfl) rfl (j_ rfl (e_ rfl) rfl (J_ (S_ (by kernel_rfl) (b_ rfl (u_ ?_)))))
    exact Y_ bR_ () (s_ rfl (by have p1 := eq_false hr1; have p2 := eq_true hr2; simp only [wf2, p1, p2, hr10, if_true, if_false, decide_true, decide_false, Bool.and_true, Bool.and_false, Bool.true_and, Bool.false_and, Bool.or_true, Bool.or_false, Bool.true_or, Bool.false_or, Bool.not_true, Bool.not_false, ne_eq, not_true_eq_false, not_false_eq_true, true_and, and_true, false_and, and_false, true_or, or_true, false_or, or_false, ite_true, ite_false, Bool.false_eq_true])) B_ (fun _ _ _ => trivial)
   ·
    refine K_ 19 [4, 5] (by kernel_rfl) (fun _ a b => ⟨a, b⟩) (p_ rfl rfl rfl (h_ o_ rfl rfl rfl x_) rfl (p_ rfl rfl rfl (m_ 0 F_ rfl rfl rfl) rfl (J_ (I_ 6 rfl (by kernel_rfl) (l_ rfl rfl (af_ (eB_ (Fc.b f) (by omega)) rfl B_ (fun _ _ _ => by exact trivial) rfl fun r11 hr11 => ?_))))))
    refine d_ (q_ rfl (A_ (fun _ a b => ⟨a, b⟩) (K_ 16 [7, 8] (by kernel_rfl) (fun _ a b => ⟨a, b⟩) (j_ rfl (z_ rfl rfl) rfl (j_ rfl (f_ rfl) rfl (J_ ?_))))))
    cases r11
    ·
     refine K_ 0 [9, 10, 11, 12, 13, 14, 15, 16, 17, 18, 19, 20, 21, 22, 23, 24] (by kernel_rfl) (fun _ a b => ⟨a, b⟩) (v_ rfl rfl rfl rfl rfl (v_ rfl rfl rfl rfl rfl (v_ rfl rfl rfl rfl rfl (j_ rfl (t_ rfl rfl) rfl (j_ rfl (f_ rfl) rfl (v_ rfl rfl rfl rfl rfl (v_ rfl rfl rfl rfl rfl (v_ rfl rfl rfl rfl rfl (v_ rfl rfl rfl rfl rfl ?_)))))))))
     refine v_ rfl rfl rfl rfl rfl (v_ rfl rfl rfl rfl rfl (v_ rfl rfl rfl rfl rfl (v_ rfl rfl rfl rfl rfl (v_ rfl rfl rfl rfl rfl (j_ rfl (t_ rfl rfl) rfl (j_ rfl (e_ rfl) rfl (J_ (S_ (by kernel_rfl) (b_ rfl ?_)))))))))
     refine u_ ?_
     exact Y_ bR_ () (s_ rfl (by have p1 := eq_false hr1; have p2 := eq_true hr2; simp only [wf2, p1, p2, hr10, hr11, if_true, if_false, decide_true, decide_false, Bool.and_true, Bool.and_false, Bool.true_and, Bool.false_and, Bool.or_true, Bool.or_false, Bool.true_or, Bool.false_or, Bool.not_true, Bool.not_false, ne_eq, not_true_eq_false, not_false_eq_true, true_and, and_true, false_and, and_false, true_or, or_true, false_or, or_false, ite_true, ite_false, Bool.false_eq_true])) B_ (fun _ _ _ => trivial)
    ·
     refine K_ 14 [9, 10] (by kernel_rfl) (fun _ a b => ⟨a, b⟩) (p_ rfl rfl rfl (h_ o_ rfl rfl rfl x_) rfl (p_ rfl rfl rfl (m_ 0 F_ rfl rfl rfl) rfl (J_ (I_ 11 rfl (by kernel_rfl) (l_ rfl rfl (af_ (lZ_ (Fc.r f) (by omega)) rfl B_ (fun _ _ _ => by exact trivial) rfl fun r12 hr12 => ?_))))))
     refine d_ (q_ rfl (A_ (fun _ a b => ⟨a, b⟩) (K_ 11 [12, 13] (by kernel_rfl) (fun _ a b => ⟨a, b⟩) (j_ rfl (z_ rfl rfl) rfl (j_ rfl (f_ rfl) rfl (J_ ?_))))))
     cases r12
     ·
      refine K_ 0 [14, 15, 16, 17, 18, 19, 20, 21, 22, 23, 24] (by kernel_rfl) (fun _ a b => ⟨a, b⟩) (v_ rfl rfl rfl rfl rfl (v_ rfl rfl rfl rfl rfl (v_ rfl rfl rfl rfl rfl (v_ rfl rfl rfl rfl rfl (v_ rfl rfl rfl rfl rfl (v_ rfl rfl rfl rfl rfl (v_ rfl rfl rfl rfl rfl (v_ rfl rfl rfl rfl rfl (v_ rfl rfl rfl rfl rfl ?_)))))))))
      refine j_ rfl (t_ rfl rfl) rfl (j_ rfl (e_ rfl) rfl (J_ (S_ (by kernel_rfl) (b_ rfl (u_ ?_)))))
      exact Y_ bR_ () (s_ rfl (by have p1 := eq_false hr1; have p2 := eq_true hr2; simp only [wf2, p1, p2, hr10, hr11, hr12, if_true, if_false, decide_true, decide_false, Bool.and_true, Bool.and_false, Bool.true_and, Bool.false_and, Bool.or_true, Bool.or_false, Bool.true_or, Bool.false_or, Bool.not_true, Bool.not_false, ne_eq, not_true_eq_false, not_false_eq_true, true_and, and_true, false_and, and_false, true_or, or_true, false_or, or_false, ite_true, ite_false, Bool.false_eq_true])) B_ (fun _ _ _ => trivial)
     ·
      refine K_ 4 [14, 15, 16, 17, 18, 19, 20] (by kernel_rfl) (fun _ a b => ⟨a, b⟩) (p_ rfl rfl rfl (O_ 0 R_ k_ rfl rfl rfl) rfl (p_ rfl rfl rfl (h_ o_ rfl rfl rfl x_) rfl (p_ rfl rfl rfl (m_ 0 F_ rfl rfl rfl) rfl (p_ rfl rfl rfl (h_ o_ rfl rfl rfl x_) rfl (p_ rfl rfl rfl (m_ 0 F_ rfl rfl rfl) rfl (p_ rfl rfl rfl (h_ o_ rfl rfl rfl x_) rfl (p_ rfl rfl rfl (m_ 0 F_ rfl rfl rfl) rfl (J_ (I_ 21 rfl (by kernel_rfl) ?_)))))))))
      refine l_ rfl rfl (P_ (dx_ (Fc.a f) (Fc.r f) (Fc.b f)) rfl B_ (fun _ _ _ => by exact trivial) rfl fun _ => ?_)
      refine d_ (q_ rfl (A_ (fun _ a b => ⟨a, b⟩) (K_ 0 [22, 23, 24] (by kernel_rfl) (fun _ a b => ⟨a, b⟩) ?_)))
      refine ar_ rfl rfl rfl (ap_ (p := f) (q := (bq_ (Fc.a f) (Fc.r f) (Fc.b f))) rfl rfl) rfl fun r13 hr13 => ?_
      refine j_ rfl (z_ rfl rfl) rfl (j_ rfl (e_ rfl) rfl (J_ (S_ (by kernel_rfl) (b_ rfl (u_ ?_)))))
      exact Y_ bR_ () (s_ rfl (by have p1 := eq_false hr1; have p2 := eq_true hr2; rw [← hr13]; simp only [wf2, p1, p2, hr10, hr11, hr12, if_true, if_false, decide_true, decide_false, Bool.and_true, Bool.and_false, Bool.true_and, Bool.false_and, Bool.or_true, Bool.or_false, Bool.true_or, Bool.false_or, Bool.not_true, Bool.not_false, ne_eq, not_true_eq_false, not_false_eq_true, true_and, and_true, false_and, and_false, true_or, or_true, false_or, or_false, ite_true, ite_false, Bool.false_eq_true])) B_ (fun _ _ _ => trivial)
 ·
  replace hr1 := eq_of_beq hr1
  refine w_ rfl (g_ ?_)
  refine aI_ (by kernel_rfl) ?_
  refine K_ 16 [0, 1] (by kernel_rfl) (fun _ a b => ⟨a, b⟩) (j_ rfl (h_ o_ rfl rfl rfl x_) rfl (j_ rfl (m_ 0 F_ rfl rfl rfl) rfl (J_ (I_ 2 rfl (by kernel_rfl) (af_ (eB_ (Fc.a f) (by omega)) rfl B_ (fun _ _ _ => by exact trivial) rfl fun r14 hr14 => ?_)))))
  refine d_ (q_ rfl (A_ (fun _ a b => ⟨a, b⟩) (K_ 14 [3] (by kernel_rfl) (fun _ a b => ⟨a, b⟩) (j_ rfl (f_ rfl) rfl (J_ ?_)))))
  cases r14
  ·
   refine K_ 0 [4, 5, 6, 7, 8, 9, 10, 11, 12, 13, 14, 15, 16, 17] (by kernel_rfl) (fun _ a b => ⟨a, b⟩) (v_ rfl rfl rfl rfl rfl (v_ rfl rfl rfl rfl rfl (v_ rfl rfl rfl rfl rfl (j_ rfl (t_ rfl rfl) rfl (j_ rfl (f_ rfl) rfl (v_ rfl rfl rfl rfl rfl (v_ rfl rfl rfl rfl rfl (v_ rfl rfl rfl rfl rfl (v_ rfl rfl rfl rfl rfl ?_)))))))))
   refine v_ rfl rfl rfl rfl rfl (v_ rfl rfl rfl rfl rfl (v_ rfl rfl rfl rfl rfl (j_ rfl (t_ rfl rfl) rfl (j_ rfl (e_ rfl) rfl (J_ (S_ (by kernel_rfl) (b_ rfl (u_ ?_))))))))
   exact Y_ bR_ () (s_ rfl (by have p1 := eq_true hr1; simp only [wf2, p1, hr14, if_true, if_false, decide_true, decide_false, Bool.and_true, Bool.and_false, Bool.true_and, Bool.false_and, Bool.or_true, Bool.or_false, Bool.true_or, Bool.false_or, Bool.not_true, Bool.not_false, ne_eq, not_true_eq_false, not_false_eq_true, true_and, and_true, false_and, and_false, true_or, or_true, false_or, or_false, ite_true, ite_false, Bool.false_eq_true])) B_ (fun _ _ _ => trivial)
  ·
   refine K_ 12 [4, 5] (by kernel_rfl) (fun _ a b => ⟨a, b⟩) (p_ rfl rfl rfl (h_ o_ rfl rfl rfl x_) rfl (p_ rfl rfl rfl (m_ 0 F_ rfl rfl rfl) rfl (J_ (I_ 6 rfl (by kernel_rfl) (l_ rfl rfl (af_ (eB_ (Fc.b f) (by omega)) rfl B_ (fun _ _ _ => by exact trivial) rfl fun r15 hr15 => ?_))))))
   refine d_ (q_ rfl (A_ (fun _ a b => ⟨a, b⟩) (K_ 9 [7, 8] (by kernel_rfl) (fun _ a b => ⟨a, b⟩) (j_ rfl (z_ rfl rfl) rfl (j_ rfl (f_ rfl) rfl (J_ ?_))))))
   cases r15
   ·
    refine K_ 0 [9, 10, 11, 12, 13, 14, 15, 16, 17] (by kernel_rfl) (fun _ a b => ⟨a, b⟩) (v_ rfl rfl rfl rfl rfl (v_ rfl rfl rfl rfl rfl (v_ rfl rfl rfl rfl rfl (v_ rfl rfl rfl rfl rfl (v_ rfl rfl rfl rfl rfl (v_ rfl rfl rfl rfl rfl (v_ rfl rfl rfl rfl rfl (j_ rfl (t_ rfl rfl) rfl (j_ rfl (e_ rfl) rfl ?_)))))))))
    refine J_ (S_ (by kernel_rfl) (b_ rfl (u_ ?_)))
    exact Y_ bR_ () (s_ rfl (by have p1 := eq_true hr1; simp only [wf2, p1, hr14, hr15, if_true, if_false, decide_true, decide_false, Bool.and_true, Bool.and_false, Bool.true_and, Bool.false_and, Bool.or_true, Bool.or_false, Bool.true_or, Bool.false_or, Bool.not_true, Bool.not_false, ne_eq, not_true_eq_false, not_false_eq_true, true_and, and_true, false_and, and_false, true_or, or_true, false_or, or_false, ite_true, ite_false, Bool.false_eq_true])) B_ (fun _ _ _ => trivial)
   ·
    refine K_ 4 [9, 10, 11, 12, 13] (by kernel_rfl) (fun _ a b => ⟨a, b⟩) (p_ rfl rfl rfl (O_ 0 R_ k_ rfl rfl rfl) rfl (p_ rfl rfl rfl (h_ o_ rfl rfl rfl x_) rfl (p_ rfl rfl rfl (m_ 0 F_ rfl rfl rfl) rfl (p_ rfl rfl rfl (h_ o_ rfl rfl rfl x_) rfl (p_ rfl rfl rfl (m_ 0 F_ rfl rfl rfl) rfl (J_ (I_ 14 rfl (by kernel_rfl) (l_ rfl rfl (P_ (by_ (Fc.a f) (Fc.b f)) rfl B_ (fun _ _ _ => by exact trivial) rfl fun _ => ?_)))))))))
    refine d_ (q_ rfl (A_ (fun _ a b => ⟨a, b⟩) (K_ 0 [15, 16, 17] (by kernel_rfl) (fun _ a b => ⟨a, b⟩) ?_)))
    refine ar_ rfl rfl rfl (ap_ (p := f) (q := (aE_ (Fc.a f) (Fc.b f))) rfl rfl) rfl fun r16 hr16 => ?_
    refine j_ rfl (z_ rfl rfl) rfl (j_ rfl (e_ rfl) rfl (J_ (S_ (by kernel_rfl) (b_ rfl (u_ ?_)))))
    exact Y_ bR_ () (s_ rfl (by have p1 := eq_true hr1; rw [← hr16]; simp only [wf2, p1, hr14, hr15, if_true, if_false, decide_true, decide_false, Bool.and_true, Bool.and_false, Bool.true_and, Bool.false_and, Bool.or_true, Bool.or_false, Bool.true_or, Bool.false_or, Bool.not_true, Bool.not_false, ne_eq, not_true_eq_false, not_false_eq_true, true_and, and_true, false_and, and_false, true_or, or_true, false_or, or_false, ite_true, ite_false, Bool.false_eq_true])) B_ (fun _ _ _ => trivial)
theorem mg_ {P : Program} {N : Nf} {fr : Fr} {H : Hp} {Γ : List Fct} {ty t : TypeId} {x : Operand} {u : Value} {fs : Array Field} (hu : ∀ w, (underlying t).run P w = .ok (.struct fs) w) (hx : Fr.ev fr x = some u) : Yld P N fr H Γ (.makeInterface t x) ty (.iface t u) :=
  fun a v h1 _ _ _ _ _ => by simp [execOp, h1.ev hx, Instr.makeInterface, hu]
theorem nX_ : gy_ Tryz.prog 156 [] [] := ⟨_, Tryz.zeroValue156, Tryz.runUnderlying156, fun w => by simp []⟩
theorem need_t : TriX Tryz.prog 43 #[.bool true] [] [] (fun _ : {u : Unit // true = true} => .tuple #[]) (fun _ => []) (fun _ => []) (true = false) := by
  refine bd_ Tryz.func43 rfl rfl Tryz.ntmps43 rfl fun v0 => ?_
  refine g_ (c_ (a_ (f_ rfl) rfl (a_ (bo_ rfl) rfl (d_ (b_ rfl (y_ rfl (L_ (ge_ rfl ?_))))))))
  refine endX ?_
  exact oP_ Tryz.results43 ⟨(), rfl⟩ rfl B_ (fun _ _ _ => trivial)
theorem need_f : TriX Tryz.prog 43 #[.bool false] [] [] (fun _ : {u : Unit // false = true} => .tuple #[]) (fun _ => []) (fun _ => []) (false = false) := by
  refine bd_ Tryz.func43 rfl rfl Tryz.ntmps43 rfl fun v0 => ?_
  refine g_ (c_ (a_ (f_ rfl) rfl (a_ (bo_ rfl) rfl (d_ (b_ rfl (w_ rfl (c_ (a_ (ax_ nX_ rfl rfl) rfl (a_ (mg_ Tryz.runUnderlying156 rfl) rfl ?_)))))))))
  exact lG_ rfl (ce_ rfl)
theorem cL_ (ok : Bool) : TriX Tryz.prog 43 #[.bool ok] [] [] (fun _ : {u : Unit // ok = true} => .tuple #[]) (fun _ => []) (fun _ => []) (ok = false) := by
  cases ok
  · exact need_f
  · exact need_t
end Go.Proofs.YtaffcjgphlhppaaGreatDoor
namespace Go.Vs
open Go Go.Sx
def Ky.cells (k : Ky) : List Value := [.int .i64 k.kind, str k.role, str k.atom]
theorem Ky.cells_len (k : Ky) : k.cells.length = 3 := rfl
def Ky.val (k : Ky) : Value := .agg k.cells.toArray
def Ky.eqb (p q : Ky) : Bool := (p.kind == q.kind) && ((p.role == q.role) && ((p.atom == q.atom) && true))
theorem Ky.eqb_eq (p q : Ky) : p.eqb q = decide (p = q) := by
  rw [Bool.eq_iff_iff]; cases p; cases q; simp [Ky.eqb]
theorem Fc.cells_one (p : Fc) : p.cells.all Value.oneCell' = true := rfl
end Go.Vs
namespace Go.Sx
open Go Go.Vs
structure Emt (P : Program) (tF : TypeId) where
  stp : Fc → List Fc → List Fc
  kof : List Fc → List Fc
  St : List Fc → List Fc → Hp → Prop
  fn : FuncId
  caps : List Value
  ef : Fct
  kb : Nat
  fb : Nat
  grows : Grows stp kof
  emit : ∀ f nw fm H, St nw fm H → Tri P fn (f.val :: caps).toArray H [ef] (fun _ : {H' : Hp // St (stp f nw) fm H'} => .tuple #[]) (fun y => y.1) (fun _ => [])
  known : ∀ {nw fm H}, St nw fm H → ∃ es c, (kb, Obj.map es c) ∈ H ∧ SetE Fc.val es (kof nw)
  firm : ∀ {nw fm H}, St nw fm H → ∃ es c q, (fb, Obj.map es c) ∈ H ∧ SetE Fc.val es q ∧ ∀ f, f ∈ q ↔ f ∈ fm
  setf : ∀ {nw fm H} (f : Fc), St nw fm H → ∃ es c q Hr, H.Perm ((fb, Obj.map es c) :: Hr) ∧ SetE Fc.val es q ∧ (∀ f, f ∈ q ↔ f ∈ fm) ∧ ∀ es' c', SetE Fc.val es' (if f ∈ q then q else q ++ [f]) → ∃ H', St nw (f :: fm) H' ∧ H'.Perm ((fb, Obj.map es' c') :: Hr)
section
variable {P : Program} {N : Nf} {v0 : Vw} {H0 : Hp} {R : Exit → Act → World → Prop} {K : List Kt} {fr : Fr} {H : Hp} {Γ : List Fct}
variable {ops : Array Oper} {l : List Oper} {d : Nat} {ty : TypeId} {ps : String} {af : Array Edge} {tF : TypeId} {E : Emt P tF} {nw fm : List Fc} {Hs F : Hp}
end
structure EngB where
  g : Nat
  pb : Nat
  ab : Nat
  ub : Nat
  ob : Nat
  ib : Nat
  rb : Nat
  sb : Nat
  lad : Option Addr
  lcap : Nat
  lps : List Str
def EngB.cells (B : EngB) {P : Program} {tF : TypeId} (E : Emt P tF) : List Value :=
  [.map (some B.pb), .slice B.lad B.lps.length B.lcap, .map (some E.kb), .func (.func E.fn) #[] E.caps.toArray, .map (some B.ab), .map (some B.ub), .map (some B.ob), .map (some B.ib), .map (some B.rb), .map (some B.sb), .map (some E.fb)]
end Go.Sx
namespace Go.Proofs.YtaffcjgphlhppaaGreatDoor
open Go Go.Sx Go.Proofs
attribute [local irreducible] Code.wp wpList wpAnyH
open Go.Vs
theorem kG_ : Elt Tryz.prog 47 24 6 72 := ix_ Tryz.underlying47 (z := .agg #[.int .i64 0, str [], str [], str [], .int .i64 0, .int .i64 0]) (by kernel_rfl) rfl (by decide)
theorem ny_ : Elt Tryz.prog 22 73 10 128 := ix_ Tryz.underlying22 (z := .agg #[.int .i64 0, str [], str [], str [], str [], str [], str [], .int .i64 0, .int .i64 0, .int .i64 0]) (by kernel_rfl) rfl (by decide)
theorem hB_ (s : Int) : (cV_ s).all Value.oneCell' = true := rfl
end Go.Proofs.YtaffcjgphlhppaaGreatDoor
namespace Go.Proofs.YtaffcjgphlhppaaGreatDoor
open Go Go.Sx Go.Proofs
attribute [local irreducible] Code.wp wpList wpAnyH
open Go.Vs
def ivC (i : Int × Int) : List Value := [.int .i64 i.1, .int .i64 i.2]
theorem iU_ (i : Int × Int) : (ivC i).length = 2 := rfl
def ivV (i : Int × Int) : Value := .agg (ivC i).toArray
def dy_ (i : Int × Int) : Int := if min i.1 i.2 < -1099511627776 ∨ 1099511627776 < max i.1 i.2 then 1 else if i.2 < i.1 then 80 else 0
def fF_ (e : Int) (i : Int × Int) : Int := if e ≠ 0 then e else dy_ i
def dG_ (l : List (Int × Int)) : Int := l.foldl fF_ 0
theorem jS_ {l : List (Int × Int)} {i : Nat} {x : Int × Int} (h : l[i]? = some x) : dG_ (List.take (i + 1) l) = fF_ (dG_ (List.take i l)) x := by
  unfold dG_; rw [List.take_add_one, h, Option.toList_some, List.foldl_append]; rfl
def lM_ (a b : Int × Int) : Bool := decide (dG_ [a, b] = 0) && (decide (b.1 ≤ a.1) && decide (a.2 ≤ b.2))
theorem oE_ {a b : Int × Int} (ha : -1099511627776 ≤ a.1 ∧ a.1 ≤ a.2 ∧ a.2 ≤ 1099511627776) (hb : -1099511627776 ≤ b.1 ∧ b.1 ≤ b.2 ∧ b.2 ≤ 1099511627776) : lM_ a b = decide (b.1 ≤ a.1 ∧ a.2 ≤ b.2) := by
  have e : ∀ i : Int × Int, -1099511627776 ≤ i.1 ∧ i.1 ≤ i.2 ∧ i.2 ≤ 1099511627776 → dy_ i = 0 := fun i h => by
    unfold dy_; rw [if_neg (by omega), if_neg (by omega)]
  have e2 : dG_ [a, b] = 0 := by simp [dG_, fF_, e a ha, e b hb]
  unfold lM_; rw [e2, Bool.eq_iff_iff]; simp
theorem eH_ : gy_ Tryz.prog 196 [(0, 1), (1, 1)] [.int .i64 0, .int .i64 0] := ⟨_, ao_, G_, fun w => by simp [r_]⟩
theorem lO_ (i : Int × Int) : Fn0 Tryz.prog 223 #[ivV i] (.int .i64 (dy_ i)) := by
  refine T_ Tryz.func223 rfl rfl Tryz.ntmps223 rfl fun v0 => ?_
  refine g_ (c_ (aL_ rfl rfl fun b1 => ?_))
  refine a_ (e_ rfl) rfl (d_ (b_ rfl (g_ (g_ (c_ (a_ (h_ G_ rfl rfl rfl r_) rfl (a_ (m_ 0 C_ rfl rfl rfl) rfl (a_ (h_ G_ rfl rfl rfl r_) rfl (a_ (m_ 0 C_ rfl rfl rfl) rfl ?_)))))))))
  refine a_ (mh_ rfl rfl) rfl (E_ (au_ rfl rfl) rfl fun r1 hr1 => ?_)
  refine a_ (f_ rfl) rfl ?_
  cases r1
  · skip
    replace hr1 := of_decide_eq_false hr1
    refine l_ rfl rfl (a_ (h_ G_ rfl rfl rfl r_) rfl (l_ rfl rfl (a_ (m_ 0 C_ rfl rfl rfl) rfl (l_ rfl rfl (a_ (h_ G_ rfl rfl rfl r_) rfl (l_ rfl rfl (a_ (m_ 0 C_ rfl rfl rfl) rfl (l_ rfl rfl (a_ (mi_ rfl rfl) rfl ?_)))))))))
    refine l_ rfl rfl (E_ (bx_ rfl rfl) rfl fun r2 hr2 => ?_)
    refine a_ (t_ rfl rfl) rfl (d_ (b_ rfl ?_))
    cases r2
    · skip
      replace hr2 := of_decide_eq_false hr2
      refine y_ rfl (L_ (b_ rfl (g_ (g_ (c_ (a_ (h_ G_ rfl rfl rfl r_) rfl (a_ (m_ 0 C_ rfl rfl rfl) rfl (a_ (h_ G_ rfl rfl rfl r_) rfl (a_ (m_ 0 C_ rfl rfl rfl) rfl ?_)))))))))
      refine E_ (bx_ rfl rfl) rfl fun r3 hr3 => ?_
      refine d_ (b_ rfl ?_)
      cases r3
      · skip
        replace hr3 := of_decide_eq_false hr3
        refine y_ rfl (L_ (b_ rfl (g_ (c_ (a_ (e_ rfl) rfl (d_ (b_ rfl (u_ ?_))))))))
        exact Y_ Tryz.results223 () (aA_ rfl (by unfold dy_; first | (rw [if_pos (by omega)]) | (rw [if_neg (by omega), if_pos (by omega)]) | (rw [if_neg (by omega), if_neg (by omega)]))) B_ (fun _ _ _ => trivial)
      · skip
        replace hr3 := of_decide_eq_true hr3
        refine w_ rfl (g_ (c_ (a_ (e_ rfl) rfl (d_ (b_ rfl (u_ ?_))))))
        exact Y_ Tryz.results223 () (aA_ rfl (by unfold dy_; first | (rw [if_pos (by omega)]) | (rw [if_neg (by omega), if_pos (by omega)]) | (rw [if_neg (by omega), if_neg (by omega)]))) B_ (fun _ _ _ => trivial)
    · skip
      replace hr2 := of_decide_eq_true hr2
      refine w_ rfl (g_ (c_ (a_ (e_ rfl) rfl (d_ (b_ rfl (u_ ?_))))))
      exact Y_ Tryz.results223 () (aA_ rfl (by unfold dy_; first | (rw [if_pos (by omega)]) | (rw [if_neg (by omega), if_pos (by omega)]) | (rw [if_neg (by omega), if_neg (by omega)]))) B_ (fun _ _ _ => trivial)
  · skip
    replace hr1 := of_decide_eq_true hr1
    refine n_ rfl rfl rfl rfl (n_ rfl rfl rfl rfl (n_ rfl rfl rfl rfl (n_ rfl rfl rfl rfl (n_ rfl rfl rfl rfl (n_ rfl rfl rfl rfl (a_ (z_ rfl rfl) rfl (d_ (b_ rfl (w_ rfl ?_)))))))))
    refine g_ (c_ (a_ (e_ rfl) rfl (d_ (b_ rfl (u_ ?_)))))
    exact Y_ Tryz.results223 () (aA_ rfl (by unfold dy_; first | (rw [if_pos (by omega)]) | (rw [if_neg (by omega), if_pos (by omega)]) | (rw [if_neg (by omega), if_neg (by omega)]))) B_ (fun _ _ _ => trivial)
theorem oB_ (e : Int) (i : Int × Int) : Fn0 Tryz.prog 222 #[.int .i64 e, ivV i] (.int .i64 (fF_ e i)) := by
  refine T_ Tryz.func222 rfl rfl Tryz.ntmps222 rfl fun v0 => ?_
  refine g_ (c_ (aL_ rfl rfl fun b1 => ?_))
  refine a_ (e_ rfl) rfl (d_ (b_ rfl (g_ (g_ (c_ (a_ (f_ rfl) rfl (E_ (bw_ rfl rfl) rfl fun r1 hr1 => ?_)))))))
  refine d_ (b_ rfl ?_)
  cases r1
  · skip
    replace hr1 := bt_ hr1
    refine y_ rfl (L_ (b_ rfl (g_ (c_ (a_ (O_ 0 bU_ Z_ rfl rfl rfl) rfl (P_ (lO_ i) rfl B_ (fun _ _ _ => by exact trivial) rfl fun _ => ?_))))))
    refine a_ (e_ rfl) rfl (d_ (b_ rfl (u_ ?_)))
    exact Y_ Tryz.results222 () (aA_ rfl (by unfold fF_; first | (rw [if_pos (by assumption)]) | (rw [if_neg (by omega)]))) B_ (fun _ _ _ => trivial)
  · skip
    replace hr1 := bs_ hr1
    refine w_ rfl (g_ (c_ (a_ (f_ rfl) rfl (a_ (e_ rfl) rfl (d_ (b_ rfl (u_ ?_)))))))
    exact Y_ Tryz.results222 () (aA_ rfl (by unfold fF_; first | (rw [if_pos (by assumption)]) | (rw [if_neg (by omega)]))) B_ (fun _ _ _ => trivial)
theorem kB_ (l : List (Int × Int)) (ad : Option Addr) (cap : Nat) (hl : l.length ≤ 1000000) : Tri Tryz.prog 221 #[.slice ad (List.length l) cap, .int .i64 0, .func (.func 222) #[] #[]] [] [aR_ ad (List.flatMap ivC l)] (fun _ : Unit => .int .i64 (dG_ l)) (fun _ => []) (fun _ => []) := by
  refine T_ Tryz.func221 rfl rfl Tryz.ntmps221 rfl fun v0 => ?_
  refine g_ (c_ (a_ (e_ rfl) rfl (d_ (b_ rfl (g_ (g_ (c_ (a_ (f_ rfl) rfl (a_ (aB_ lz_ rfl) rfl ?_)))))))))
  refine a_ (f_ rfl) rfl (d_ (b_ rfl (ae_ ?_)))
  refine bz_ (ι := {y : Nat // y ≤ l.length}) (fun y => [(1, .int .i64 (dG_ (List.take y.1 l))), (2, .func (.func 222) #[] #[]), (9, .slice ad (List.length l) cap), (10, .int .i64 (List.length l : Int)), (11, .int .i64 (y.1 : Int))]) (fun y => ([])) (fun y => [aR_ ad (List.flatMap ivC l)]) (fun y => l.length - y.1) ⟨(0 : Nat), by simp⟩ ⟨rfl, rfl, rfl, rfl, rfl, trivial⟩ B_ (fun _ _ h => h) ?_
  rintro ⟨i, hi⟩
  dsimp only at hi ⊢
  refine g_ (c_ (E_ (au_ rfl rfl) rfl fun r1 hr1 => ?_))
  refine d_ (b_ rfl (g_ ?_))
  cases r1
  · skip
    replace hr1 := of_decide_eq_false hr1
    refine y_ rfl (bi_ rfl (b_ rfl (g_ (c_ (a_ (f_ rfl) rfl (a_ (e_ rfl) rfl (d_ (b_ rfl (u_ ?_)))))))))
    exact Y_ Tryz.results221 () (aA_ rfl (by rw [List.take_of_length_le (by omega)])) B_ (fun _ _ _ => trivial)
  · skip
    replace hr1 := of_decide_eq_true hr1
    have hlx1 : i < List.length l := by omega
    obtain ⟨x1, hx1⟩ : ∃ e0, l[i]? = some e0 := ⟨_, List.getElem?_eq_getElem hlx1⟩
    have hmx1 : x1 ∈ l := List.mem_of_getElem? hx1
    refine w_ rfl (L_ (b_ rfl (g_ (ae_ (g_ (c_ (a_ (ah_ lz_ Z_ rfl rfl (fun v _ h => aN_ (n := 2) iU_ (by decide) (by exact h.1) hx1) (by omega) (by first | omega | (simp; done))) rfl (a_ (aM_ (ad := ad) (us := ivC x1) bU_ Z_ rfl (fun v _ h => by exact h.1) (iU_ _) (ak_ iU_ hx1)) rfl (ad_ ao_ rfl fun b1 => ?_)))))))))
    refine X_ 0 Z_ rfl rfl rfl rfl rfl rfl (d_ (b_ rfl (c_ (a_ (f_ rfl) rfl (a_ (f_ rfl) rfl (a_ (O_ 0 bU_ Z_ rfl rfl rfl) rfl (ii_ (oB_ (dG_ (List.take i l)) x1) rfl rfl B_ (fun _ _ _ => by exact trivial) rfl fun _ => ?_)))))))
    refine a_ (e_ rfl) rfl (d_ (b_ rfl (c_ (a_ (ac_ rfl rfl rfl (aK_ (by omega) (by omega))) rfl (a_ (f_ rfl) rfl (d_ (q_ rfl ?_)))))))
    exact aO_ ⟨i + 1, hlx1⟩ (by dsimp only; omega) ⟨(aA_ rfl (jS_ hx1).symm), rfl, rfl, rfl, rfl, trivial⟩ B_ (fun _ _ h => h)
theorem li_ (l : List (Int × Int)) (ad : Option Addr) (cap : Nat) (hl : l.length ≤ 1000000) : Tri Tryz.prog 196 #[.slice ad (List.length l) cap] [] [aR_ ad (List.flatMap ivC l)] (fun _ : Unit => .int .i64 (dG_ l)) (fun _ => []) (fun _ => []) := by
  refine T_ Tryz.func196 rfl rfl Tryz.ntmps196 rfl fun v0 => ?_
  refine g_ (c_ (a_ (e_ rfl) rfl (d_ (b_ rfl (g_ (c_ (a_ (f_ rfl) rfl (P_ (kB_ l ad cap hl) rfl B_ (fun v _ h => by exact ⟨h.1, trivial⟩) rfl fun _ => ?_))))))))
  refine a_ (e_ rfl) rfl (d_ (b_ rfl (u_ ?_)))
  exact Y_ Tryz.results196 () rfl B_ (fun _ _ _ => trivial)
theorem mo_ (i j : Int × Int) : Fn0 Tryz.prog 162 #[ivV i, ivV j] (.bool (lM_ i j)) := by
  refine T_ Tryz.func162 rfl rfl Tryz.ntmps162 rfl fun v0 => ?_
  refine g_ (c_ (aL_ rfl rfl fun b1 => ?_))
  refine aL_ rfl rfl fun b2 => ?_
  refine a_ (e_ rfl) rfl (d_ (b_ rfl (g_ (c_ (a_ (O_ 1 bU_ Z_ rfl rfl rfl) rfl (a_ (O_ 0 bU_ Z_ rfl rfl rfl) rfl (aX_ lz_ Z_ ao_ rfl rfl rfl rfl rfl rfl fun b3 => ?_)))))))
  refine bC_ (List.flatMap ivC [i, j]) D_ rfl ?_
  refine P_ (li_ [i, j] (some ⟨b3, 0, none⟩) 2 (by simp)) rfl B_ (fun v _ h => by exact ⟨h.1, trivial⟩) rfl fun _ => ?_
  refine E_ (aC_ rfl rfl) rfl fun r1 hr1 => ?_
  refine a_ (f_ rfl) rfl ?_
  cases r1
  · skip
    replace hr1 := ne_of_beq_false hr1
    refine n_ rfl rfl rfl rfl (n_ rfl rfl rfl rfl (n_ rfl rfl rfl rfl (n_ rfl rfl rfl rfl (n_ rfl rfl rfl rfl (a_ (t_ rfl rfl) rfl (a_ (f_ rfl) rfl (n_ rfl rfl rfl rfl (n_ rfl rfl rfl rfl (n_ rfl rfl rfl rfl ?_)))))))))
    refine n_ rfl rfl rfl rfl (n_ rfl rfl rfl rfl (a_ (t_ rfl rfl) rfl (a_ (e_ rfl) rfl (d_ (b_ rfl (u_ ?_))))))
    exact Y_ Tryz.results162 () (s_ rfl (by unfold lM_; simp_all <;> omega)) B_ (fun _ _ _ => trivial)
  · skip
    replace hr1 := eq_of_beq hr1
    refine l_ rfl rfl (a_ (h_ G_ rfl rfl rfl r_) rfl (l_ rfl rfl (a_ (m_ 0 C_ rfl rfl rfl) rfl (l_ rfl rfl (a_ (h_ G_ rfl rfl rfl r_) rfl (l_ rfl rfl (a_ (m_ 1 C_ rfl rfl rfl) rfl (l_ rfl rfl (E_ (bX_ rfl rfl) rfl fun r2 hr2 => ?_)))))))))
    refine a_ (z_ rfl rfl) rfl (a_ (f_ rfl) rfl ?_)
    cases r2
    · skip
      replace hr2 := of_decide_eq_false hr2
      refine n_ rfl rfl rfl rfl (n_ rfl rfl rfl rfl (n_ rfl rfl rfl rfl (n_ rfl rfl rfl rfl (n_ rfl rfl rfl rfl (a_ (t_ rfl rfl) rfl (a_ (e_ rfl) rfl (d_ (b_ rfl (u_ ?_)))))))))
      exact Y_ Tryz.results162 () (s_ rfl (by unfold lM_; simp_all <;> omega)) B_ (fun _ _ _ => trivial)
    · skip
      replace hr2 := of_decide_eq_true hr2
      refine l_ rfl rfl (a_ (h_ G_ rfl rfl rfl r_) rfl (l_ rfl rfl (a_ (m_ 1 C_ rfl rfl rfl) rfl (l_ rfl rfl (a_ (h_ G_ rfl rfl rfl r_) rfl (l_ rfl rfl (a_ (m_ 0 C_ rfl rfl rfl) rfl (l_ rfl rfl (E_ (bX_ rfl rfl) rfl fun r3 hr3 => ?_)))))))))
      refine a_ (z_ rfl rfl) rfl (a_ (e_ rfl) rfl (d_ (b_ rfl (u_ ?_))))
      exact Y_ Tryz.results162 () (s_ rfl (by unfold lM_; simp_all <;> omega)) B_ (fun _ _ _ => trivial)
theorem gV_ (a b c d : Int) (ha : -1099511627776 ≤ a ∧ a ≤ b ∧ b ≤ 1099511627776) (hb : -1099511627776 ≤ c ∧ c ≤ d ∧ d ≤ 1099511627776) : Fn0 Tryz.prog 162 #[ivV (a, b), ivV (c, d)] (.bool (decide (c ≤ a ∧ b ≤ d))) := by
  have := mo_ (a, b) (c, d)
  rw [oE_ ha hb] at this
  exact this
end Go.Proofs.YtaffcjgphlhppaaGreatDoor
