/-
  Part of the proof of the law CheckerBytes over this seat: the small logic, the data, the contracts of functions (no condition).
-/
import Derived.Test.YtaffcjgphlhppaaGreatDoorQCheckerBytes6
import Derived.Test.YtaffcjgphlhppaaGreatDoorQCheckerBytes3
import Derived.Lib.AppendStr
import Derived.Laws.BytesString
import Derived.Test.YtaffcjgphlhppaaGreatDoorQCheckerBytes5
import Derived.Test.YtaffcjgphlhppaaGreatDoorQCheckerBytes4
set_option linter.unusedVariables false
set_option linter.unusedSimpArgs false
set_option linter.unusedSectionVars false
namespace Go.Sx
open Go Go.Vs
theorem iB_ {P : Program} (w : World) {t tx ty' e : TypeId} {i : TypeInfo} {n : Nat} {sv v' : Value} {w' : World} {xs : List Value} {s : ByteArray} (ht : P.underlying t = some (.slice e)) (hu : P.underlying tx = some .string) (hi : P.info? e = some i) (hz : i.zero = some (.int .u8 0))
    (hsz : i.size = 1) (hby : i.bytes = 1) (hown : w.ownsRow 0 e 1 sv n xs) (h63 : n + s.size ≤ maxLen) (hb : n + s.size ≤ 140737488355328)
    (hr : (Builtin.append_ #[t, tx] ty' #[sv, .string s]).run P w = .ok v' w') : w.drawn ≤ w'.drawn ∧ ∀ g, v'.ownBlock = some g → sv.ownBlock = some g ∨ w.heap.size ≤ g := by
  have hsmall : n + s.size ≤ 9223372036854775807 := by simp only [maxLen] at h63; omega
  rcases hown.2 with ⟨rfl, rfl⟩ | ⟨b, cap, cur, rfl, _, hgg, hnc, _, hcs, htake⟩
  · by_cases hm : s.size = 0
    · have : (Builtin.append_ #[t, tx] ty' #[.slice none 0 0, .string s]).run P w = .ok (.slice none 0 0) w := by
        have hf := Lib.run_firstCells_string (P := P) w 1 s
        have hn : Lib.strCells s = [] := List.eq_nil_of_length_eq_zero (by rw [Lib.strCells_length]; exact hm)
        rw [hm, hn] at hf
        simp [Builtin.append_, run_underlying ht, run_underlying hu, sizeOf, typeInfo, hi, hsz, Builtin.lenOf, hm, hf]
      rw [this] at hr
      cases hr
      exact ⟨Nat.le_refl _, fun g hg => by simp [Value.ownBlock] at hg⟩
    · have := run_append_nil_string (P := P) w t tx ty' e i (.int .u8 0) ht hu hi hz s (by omega) (by omega) (by rw [hby]; omega)
      rw [this] at hr
      cases hr
      refine ⟨by simp, fun g hg => ?_⟩
      simp only [Value.ownBlock, Option.some.injEq] at hg
      exact .inr (by omega)
  · have hxl : xs.length = n := by simpa using hown.1
    by_cases hroom : n + s.size ≤ cap
    · have hcs' : cur.size = cap := by simpa using hcs
      have := Lib.run_append_room_string (P := P) w t tx ty' e i ht hu hi hsz b n cap cur hgg s hroom (by omega)
      rw [this] at hr
      cases hr
      exact ⟨by simp, fun g hg => .inl hg⟩
    · have aD_ : ∀ j u, xs[j]? = some u → w.cell? ((⟨b, 0, none⟩ : Addr).add j) = some u := hown.cells (g := b) rfl
      have := Lib.run_append_grow_string (P := P) w t tx ty' e i (.int .u8 0) ht hu hi hz ⟨b, 0, none⟩ n cap xs (by rw [hsz]; simpa using hxl) aD_ s (by omega) (by omega) (by rw [hby]; exact growslice_fits (by omega) (by omega))
      rw [this] at hr
      cases hr
      refine ⟨by simp, fun g hg => ?_⟩
      simp only [Value.ownBlock, Option.some.injEq] at hg
      exact .inr (by omega)
structure EltB (P : Program) (t e tx : TypeId) : Prop where
  und : P.underlying t = some (.slice e)
  str : P.underlying tx = some .string
  info : ∃ i, P.info? e = some i ∧ i.zero = some (.int .u8 0) ∧ i.size = 1 ∧ i.bytes = 1
theorem eltB {P : Program} {t e tx : TypeId} (hu : P.underlying t = some (.slice e)) (hs : P.underlying tx = some .string) (hi : (P.info? e).map (fun i => (i.zero, i.size, i.bytes)) = some (some (.int .u8 0), 1, 1)) : EltB P t e tx := by
  cases h : P.info? e with
  | none => rw [h] at hi; simp at hi
  | some i =>
    rw [h] at hi
    simp only [Option.map_some, Option.some.injEq, Prod.mk.injEq] at hi
    exact ⟨hu, hs, i, h, hi⟩
theorem jz_ (s : Str) : Lib.strCells ⟨s.toArray⟩ = s.flatMap u8C := by
  simp only [Lib.strCells]
  induction s with
  | nil => rfl
  | cons c s ih => rw [List.flatMap_cons, ← ih]; rfl
section
variable {P : Program} {N : Nf} {v0 : Vw} {H0 : Hp} {R : Exit → Act → World → Prop} {K : List Kt} {fr : Fr} {H : Hp} {Γ : List Fct}
variable {ops : Array Oper} {l : List Oper} {d : Nat} {ty : TypeId} {ps : String} {af : Array Edge}
theorem fY_ {x y : Operand} {t e tx : TypeId} {L s : Str} {sv : Value} {Hr F : Hp} (he : EltB P t e tx) (hrow : bi_ e 1 sv L.length (List.flatMap u8C L) Hr)
    (hx : Fr.ev fr x = some sv) (hy : Fr.ev fr y = some (str s)) (hH : H.Perm (Hr ++ F)) (hb : L.length + s.length ≤ 140737488355328) (hN : Nat.blt d N.n = true)
    (hk : ∀ sv' Hr', bi_ e 1 sv' (L ++ s).length (List.flatMap u8C (L ++ s)) Hr' → Ops P R N v0 H0 ops l K ((d, sv') :: fr) (Hr' ++ F) Γ) :
    Ops P R N v0 H0 ops (⟨some d, .call ⟨.builtin .append, #[x, y], #[t, tx]⟩, ty, ps, af, none⟩ :: l) K fr H Γ :=
  cR_ rfl fun a v h1 h2 h3 h4 => by
    obtain ⟨i, hi, hz, es, eb⟩ := he.info
    have g := h2.perm hH
    have ho := hrow.owns g
    have hm : L.length + (⟨s.toArray⟩ : ByteArray).size ≤ maxLen := by show L.length + s.toArray.size ≤ _; simp only [List.size_toArray, maxLen]; omega
    have hb' : L.length + (⟨s.toArray⟩ : ByteArray).size ≤ 140737488355328 := by show L.length + s.toArray.size ≤ _; simpa using hb
    obtain ⟨v', w', hr, q1, q2, _⟩ := Lib.run_append_own_string (P := P) v.w 0 t tx ty e i he.und he.str hi hz es eb sv L.length _ ho ⟨s.toArray⟩ hm hb' (Nat.zero_le _)
    obtain ⟨a1, a2⟩ := iB_ v.w he.und he.str hi hz es eb ho hm hb' hr
    obtain ⟨Hr', k1, k2, k3⟩ := jg_ hrow g q1 q2 a1 a2
    have k1' : bi_ e 1 v' (L ++ s).length (List.flatMap u8C (L ++ s)) Hr' := by
      have e1 : (⟨s.toArray⟩ : ByteArray).size = s.length := by show s.toArray.size = _; simp
      rw [jz_, e1, ← List.flatMap_append, ← List.length_append] at k1
      exact k1
    have hy' := h1.ev hy
    rw [str] at hy'
    unfold Oper.wp execOp
    simp only [resolve, invoke, builtin, Sem.run_bind, Sem.run_pure, Result.andThen_ok, List.map_toArray, List.map_cons, List.map_nil, h1.ev hx, hy', hr]
    exact hk v' Hr' k1' _ ⟨v.im, w', v.sl⟩ (h1.put hN) k2 (h3.trans (k3.permL hH.symm)) (bD_ ((k3.permL hH.symm).le h2) h4)
theorem kg_ {t t' : TypeId} {x y : Operand} {ky : IntKind} {m : Nat} {i : Nat} (hx : Fr.ev fr x = some (.int .u64 (m : Int))) (hy : Fr.ev fr y = some (.int ky (8 * (i : Int)))) (hi : i < 8) : Yld P N fr H Γ (.binOp .shr t x y t') ty (.int .u64 ((m / 256 ^ i : Nat) : Int)) :=
  fun a v h1 _ _ _ _ _ => by
    have e1 : ¬ (8 * (i : Int) < 0) := by omega
    have e2 : min (8 * (i : Int)).toNat 64 = 8 * i := by omega
    have e3 : (m : Int).fdiv (2 ^ (8 * i)) = ((m / 256 ^ i : Nat) : Int) := by
      rw [Int.fdiv_eq_ediv_of_nonneg _ (Int.pow_nonneg (by decide)), show (256 : Nat) = 2 ^ 8 from rfl, ← Nat.pow_mul]
      simp
    have e : Op.shift .shr .u64 (m : Int) ky (8 * (i : Int)) = Sem.pure (.int .u64 ((m / 256 ^ i : Nat) : Int)) := by
      unfold Op.shift
      rw [if_neg e1]
      show Sem.pure (Value.int .u64 ((m : Int).fdiv (2 ^ min (8 * (i : Int)).toNat 64))) = _
      rw [e2, e3]
    simp only [execOp, h1.ev hx, h1.ev hy, eqGuard, binOp, e]
    simp
theorem dR_ (n : Int) : IntKind.wrap .u64 n = (Go.Vs.bits n : Int) := by
  have h : (0 : Int) ≤ n.emod 18446744073709551616 := Int.emod_nonneg _ (by decide)
  simp only [IntKind.wrap, IntKind.signed, IntKind.bits, Go.Vs.bits, Bool.false_eq_true, false_and, if_false]
  rw [Int.toNat_of_nonneg h]
  rfl
theorem lW_ (n : Nat) : IntKind.wrap .u8 (n : Int) = ((UInt8.ofNat n).toNat : Int) := by
  simp [IntKind.wrap, IntKind.signed, IntKind.bits]
theorem kh_ {t t' : TypeId} {x y : Operand} {ky : IntKind} {m : Nat} (hx : Fr.ev fr x = some (.int .u64 (m : Int))) (hy : Fr.ev fr y = some (.int ky 8)) (hm : m * 256 < 18446744073709551616) : Yld P N fr H Γ (.binOp .shl t x y t') ty (.int .u64 ((m * 256 : Nat) : Int)) :=
  fun a v h1 _ _ _ _ _ => by
    have e : IntKind.wrap .u64 ((m : Int) * 256) = ((m * 256 : Nat) : Int) := by
      rw [ki_ (by omega) (by omega)]; simp
    simp [execOp, h1.ev hx, h1.ev hy, eqGuard, binOp, Op.shift, IntKind.bits, e]
theorem lU_ {t t' : TypeId} {x y : Operand} {m c : Nat} (hx : Fr.ev fr x = some (.int .u64 ((m * 256 : Nat) : Int))) (hy : Fr.ev fr y = some (.int .u64 (c : Int))) (hm : m * 256 < 18446744073709551616) (hc : c < 256) : Yld P N fr H Γ (.binOp .or t x y t') ty (.int .u64 ((m * 256 + c : Nat) : Int)) :=
  fun a v h1 _ _ _ _ _ => by
    have e0 : ∀ k : Nat, k < 18446744073709551616 → (BitVec.ofInt 64 (k : Int)).toNat = k := fun k hk => by
      rw [BitVec.ofInt_natCast, BitVec.toNat_ofNat]; exact Nat.mod_eq_of_lt hk
    have e1 : m * 256 ||| c = m * 256 + c := by
      have := Nat.two_pow_add_eq_or_of_lt (i := 8) (b := c) (by simpa using hc) m
      rw [Nat.mul_comm] at this
      exact this.symm
    have e2 : (BitVec.ofInt 64 ((m * 256 : Nat) : Int) ||| BitVec.ofInt 64 (c : Int)).toNat = m * 256 + c := by
      rw [BitVec.toNat_or, e0 _ hm, e0 c (by omega), e1]
    have e : Op.intBits .or .u64 ((m * 256 : Nat) : Int) (c : Int) = Sem.pure (.int .u64 ((m * 256 + c : Nat) : Int)) := by
      show Sem.pure (Value.int .u64 (IntKind.wrap .u64 ((BitVec.ofInt 64 ((m * 256 : Nat) : Int) ||| BitVec.ofInt 64 (c : Int)).toNat : Int))) = _
      rw [e2, ki_ (by omega) (by omega)]
    simp only [execOp, h1.ev hx, h1.ev hy, eqGuard, binOp, e]
    simp
end
end Go.Sx
namespace Go.Sx
open Go Go.Vs
structure Dst where
  ad : Option Addr
  cap : Nat
  r : Str
def Dst.ok (d : Dst) : Prop := d.r.length ≤ d.cap ∧ d.cap ≤ maxLen ∧ (d.ad = none → d.cap = 0)
theorem gW_ {n : Nat} {r : Str} (h : ¬ n ≤ r.length) : cQ_ n r = none := by unfold cQ_ ha_; rw [if_neg h]; rfl
theorem fS_ {n : Nat} {r : Str} (h : n ≤ r.length) : cQ_ n r = some (beN (r.take n), r.drop n) := by unfold cQ_ ha_; rw [if_pos h]; rfl
theorem eL_ {n v : Nat} {r r' : Str} (h : cQ_ n r = some (v, r')) : v < 256 ^ n := by
  by_cases hn : n ≤ r.length
  · rw [fS_ hn] at h
    simp only [Option.some.injEq, Prod.mk.injEq] at h
    have := is_ (r.take n)
    rw [List.length_take, Nat.min_eq_left hn, h.1] at this
    exact this
  · rw [gW_ hn] at h; cases h
theorem iH_ {n : Nat} {r : Str} (h : ¬ n ≤ r.length) : ha_ n r = none := if_neg h
theorem iG_ {n : Nat} {r : Str} (h : n ≤ r.length) : ha_ n r = some (r.take n, r.drop n) := if_pos h
def dk_ (r : Str) : Option (Int × Str) := (cQ_ 1 r).map fun y => ((y.1 : Int), y.2)
def eX_ (r : Str) : Option (Int × Str) := (cQ_ 8 r).map fun y => (cq_ y.1, y.2)
def eE_ (r : Str) : Option (Int × Str) := (eQ_ r).map fun y => ((y.1 : Int), y.2)
theorem ju_ {n : Nat} (h : n < 18446744073709551616) : IntKind.wrap .i64 (n : Int) = cq_ n := by
  have e : ((n : Int) % 18446744073709551616) = n := Int.emod_eq_of_lt (by omega) (by omega)
  unfold cq_
  simp only [IntKind.wrap, IntKind.signed, IntKind.bits]
  show (if (true && decide ((n : Int) % 18446744073709551616 ≥ 9223372036854775808)) = true then (n : Int) % 18446744073709551616 - 18446744073709551616 else (n : Int) % 18446744073709551616) = _
  rw [e]
  by_cases h' : n < 9223372036854775808
  · rw [if_pos h', if_neg (by simp; omega)]
  · rw [if_neg h', if_pos (by simp; omega)]
theorem ej_ {n : Nat} (h : n < 9223372036854775808) : IntKind.wrap .i64 (n : Int) = n := by
  rw [ju_ (by omega)]; exact if_pos h
def db_ {α : Type} (f : Str → Option (α × Str)) (val : α → Value) : List Nat → List Value → Str → Option (List Value × Str)
  | [], cs, r => some (cs, r)
  | o :: os, cs, r => (f r).bind fun y => db_ f val os (cs.set o (val y.1)) y.2
theorem drop_at {α : Type} {l : List α} {i : Nat} {x : α} (h : l[i]? = some x) : l.drop i = x :: l.drop (i + 1) := by
  obtain ⟨hl, e⟩ := List.getElem?_eq_some_iff.1 h
  rw [List.drop_eq_getElem_cons hl, e]
theorem jj_ {α : Type} {f : Str → Option (α × Str)} {val : α → Value} {os : List Nat} {i o : Nat} {c : List Value} {r : Str} {X : Option (List Value × Str)} (hX : X = db_ f val (os.drop i) c r) (ho : os[i]? = some o) (hb : f r = none) : X = none := by
  rw [hX, drop_at ho, db_, hb]; rfl
theorem jk_ {α : Type} {f : Str → Option (α × Str)} {val : α → Value} {os : List Nat} {i o : Nat} {c : List Value} {r r' : Str} {v : α} {X : Option (List Value × Str)} (hX : X = db_ f val (os.drop i) c r) (ho : os[i]? = some o) (hb : f r = some (v, r')) : X = db_ f val (os.drop (i + 1)) (c.set o (val v)) r' := by
  rw [hX, drop_at ho, db_, hb]; rfl
theorem la_ {α : Type} {f : Str → Option (α × Str)} {val : α → Value} {os : List Nat} {i : Nat} {c : List Value} {r : Str} {X : Option (List Value × Str)} (hX : X = db_ f val (os.drop i) c r) (hi : os.length ≤ i) : X = some (c, r) := by
  rw [hX, List.drop_of_length_le hi]; rfl
theorem fF_ {α : Type} {f : Str → Option (α × Str)} {val : α → Value} {o : Nat} {cs c : List Value} {r r' : Str} (h : db_ f val [o] cs r = some (c, r')) : ∃ v, f r = some (v, r') ∧ c = cs.set o (val v) := by
  simp only [db_] at h
  cases h1 : f r with
  | none => rw [h1] at h; cases h
  | some y => rw [h1] at h; simp only [Option.bind_some, Option.some.injEq, Prod.mk.injEq] at h; exact ⟨y.1, by rw [← h.2], h.1.symm⟩
theorem fW_ {α : Type} {f : Str → Option (α × Str)} {val : α → Value} {o : Nat} {os : List Nat} {cs c : List Value} {r r' : Str} (h : db_ f val (o :: os) cs r = some (c, r')) : ∃ v r1, f r = some (v, r1) ∧ db_ f val os (cs.set o (val v)) r1 = some (c, r') := by
  simp only [db_] at h
  cases h1 : f r with
  | none => rw [h1] at h; cases h
  | some y => rw [h1] at h; exact ⟨y.1, y.2, rfl, h⟩
def iy_ (tb : Nat) (o : Nat) : List Value := [.pointer (some ⟨tb, o, none⟩)]
theorem gs_ (tb o : Nat) : (iy_ tb o).length = 1 := rfl
def jr_ (P : Program) (g : FuncId) (T : TypeId) (db : Nat) {α : Type} (val : α → Value) (f : Str → Option (α × Str)) : Prop := ∀ d : Dst, d.ok →
  TriX P g #[.pointer (some ⟨db, 0, none⟩)] [(db, .cells #[.slice d.ad d.r.length d.cap] T (0, 0))] [aY_ d.ad (d.r.flatMap u8C)] (fun y : {y : α × Dst // f d.r = some (y.1, y.2.r) ∧ y.2.ok} => val y.1.1)
    (fun y => [(db, .cells #[.slice y.1.2.ad y.1.2.r.length y.1.2.cap] T (0, 0))]) (fun y => [aY_ y.1.2.ad (y.1.2.r.flatMap u8C)]) (f d.r = none)
theorem jB_ {l : Str} {i : Nat} (h : i < l.length) (h8 : l.length ≤ 8) : beN (l.take i) * 256 < 18446744073709551616 := by
  have := is_ (l.take i)
  rw [List.length_take, Nat.min_eq_left (by omega)] at this
  have h2 : (256 : Nat) ^ i ≤ 256 ^ 7 := Nat.pow_le_pow_right (by decide) (by omega)
  have e : (256 : Nat) ^ 7 = 72057594037927936 := by decide
  omega
theorem mA_ {l : Str} {i : Nat} {c : UInt8} (h : l[i]? = some c) : beN (l.take (i + 1)) = beN (l.take i) * 256 + c.toNat := by
  rw [List.take_add_one, h, Option.toList_some, oI_]
theorem mr_ {r r' : Str} {v : Nat} (h : cQ_ 4 r = some (v, r')) (hv : ¬ v ≤ 2147483647) : eE_ r = none := by
  unfold eE_ eQ_; rw [h, Option.bind_some, if_neg hv]; rfl
theorem je_ {r r' : Str} {v : Nat} (h : cQ_ 4 r = some (v, r')) (hv : v ≤ 2147483647) : eE_ r = some ((v : Int), r') := by
  unfold eE_ eQ_; rw [h, Option.bind_some, if_pos hv]; rfl
theorem mq_ {r : Str} (h : cQ_ 4 r = none) : eE_ r = none := by unfold eE_ eQ_; rw [h]; rfl
theorem nz_ {r r' : Str} {v : Nat} (h : cQ_ 2 r = some (v, r')) (hv : ¬ v ≤ r'.length) : dF_ r = none := by
  unfold dF_; rw [h, Option.bind_some]; exact iH_ hv
theorem lr_ {r r' : Str} {v : Nat} (h : cQ_ 2 r = some (v, r')) (hv : v ≤ r'.length) : dF_ r = some (r'.take v, r'.drop v) := by
  unfold dF_; rw [h, Option.bind_some]; exact iG_ hv
theorem ls_ {r : Str} (h : cQ_ 2 r = none) : dF_ r = none := by unfold dF_; rw [h]; rfl
theorem fL_ {r r' : Str} {v : Nat} (h : cQ_ 1 r = some (v, r')) : dk_ r = some ((v : Int), r') := by unfold dk_; rw [h]; rfl
theorem hs_ {r : Str} (h : cQ_ 1 r = none) : dk_ r = none := by unfold dk_; rw [h]; rfl
theorem lB_ {r r' : Str} {v : Nat} (h : cQ_ 8 r = some (v, r')) : eX_ r = some (cq_ v, r') := by unfold eX_; rw [h]; rfl
theorem lC_ {r : Str} (h : cQ_ 8 r = none) : eX_ r = none := by unfold eX_; rw [h]; rfl
theorem dH_ {s : Stp} : dI_ s = true ↔ 0 ≤ s.rule ∧ s.rule ≤ 255 ∧ 0 ≤ s.fact.kind ∧ s.fact.kind ≤ 255 ∧ -1 ≤ s.piece ∧ s.piece ≤ 2147483646 ∧ s.frm.length ≤ 255 ∧ (∀ q ∈ s.frm, 0 ≤ q ∧ q ≤ 2147483647) ∧ s.fact.a.length ≤ 65535 ∧ s.fact.b.length ≤ 65535 ∧ s.fact.r.length ≤ 65535 := by
  simp only [dI_, Bool.and_eq_true, decide_eq_true_eq, List.all_eq_true]
theorem dn_ (r : Str) : hp_ r = (eE_ r).bind fun y => if y.1 ≤ 65536 then (cy_ y.1.toNat y.2).bind fun z => if z.2 = [] then some z.1 else none else none := by
  unfold hp_ eE_
  cases h : eQ_ r with
  | none => rfl
  | some y =>
    simp only [Option.bind_some, Option.map_some, Int.toNat_natCast]
    by_cases hy : y.1 ≤ 65536
    · rw [if_pos hy, if_pos (by omega)]
    · rw [if_neg hy, if_neg (by omega)]
theorem cY_ (r : Str) : eU_ r = (dk_ r).bind fun y1 => (dk_ y1.2).bind fun y2 => (dF_ y2.2).bind fun y3 => (dF_ y3.2).bind fun y4 => (dF_ y4.2).bind fun y5 => (eX_ y5.2).bind fun y6 => (eX_ y6.2).bind fun y7 => (eE_ y7.2).bind fun y8 => (dk_ y8.2).bind fun y9 =>
    (dB_ y9.1.toNat y9.2).map fun y => (⟨y1.1, ⟨y2.1, y3.1, y4.1, y5.1, y6.1, y7.1⟩, y8.1 - 1, y.1⟩, y.2) := by
  simp only [eU_, dk_, eX_, eE_, Option.bind_map, Function.comp_def, Int.toNat_natCast]
theorem lP_ {α β : Type} {f : Str → Option (α × Str)} {val : α → Value} {a : Nat} {cs : List Value} {r : Str} (h : db_ f val [a] cs r = none) (k : α × Str → Option β) : ((f r).bind fun y1 => k y1) = none := by
  cases h1 : f r with
  | none => rfl
  | some y => simp [db_, h1] at h
theorem lO_ {α β : Type} {f : Str → Option (α × Str)} {val : α → Value} {a b : Nat} {cs : List Value} {r : Str} (h : db_ f val [a, b] cs r = none) (k : α × Str → α × Str → Option β) : ((f r).bind fun y1 => (f y1.2).bind fun y2 => k y1 y2) = none := by
  cases h1 : f r with
  | none => rfl
  | some y => exact lP_ (val := val) (a := b) (cs := cs.set a (val y.1)) (by simpa [db_, h1] using h) (k y)
theorem chain3 {α β : Type} {f : Str → Option (α × Str)} {val : α → Value} {a b c : Nat} {cs : List Value} {r : Str} (h : db_ f val [a, b, c] cs r = none) (k : α × Str → α × Str → α × Str → Option β) : ((f r).bind fun y1 => (f y1.2).bind fun y2 => (f y2.2).bind fun y3 => k y1 y2 y3) = none := by
  cases h1 : f r with
  | none => rfl
  | some y =>
    refine lO_ (val := val) (a := b) (b := c) (cs := cs.set a (val y.1)) ?_ (k y)
    have h' : db_ f val [b, c] (cs.set a (val y.1)) y.2 = none := by rw [db_, h1] at h; exact h
    exact h'
theorem gp_ {r r' : Str} {v : Int} (h : dk_ r = some (v, r')) : 0 ≤ v ∧ v ≤ 255 := by
  unfold dk_ at h
  cases h1 : cQ_ 1 r with
  | none => rw [h1] at h; cases h
  | some y =>
    rw [h1] at h
    simp only [Option.map_some, Option.some.injEq, Prod.mk.injEq] at h
    have := eL_ (v := y.1) (r' := y.2) h1
    omega
theorem dY_ {r r' : Str} {v : Int} (h : eE_ r = some (v, r')) : 0 ≤ v ∧ v ≤ 2147483647 := by
  unfold eE_ eQ_ at h
  cases h1 : cQ_ 4 r with
  | none => rw [h1] at h; cases h
  | some y =>
    rw [h1, Option.bind_some] at h
    by_cases hy : y.1 ≤ 2147483647
    · rw [if_pos hy] at h
      simp only [Option.map_some, Option.some.injEq, Prod.mk.injEq] at h
      omega
    · rw [if_neg hy] at h; cases h
theorem fT_ (n : Nat) (r : Str) : dB_ (n + 1) r = (eE_ r).bind fun y => (dB_ n y.2).map fun z => (y.1 :: z.1, z.2) := by
  simp only [dB_, eE_, Option.bind_map, Function.comp_def]
theorem fU_ {n i : Nat} {l : List Int} {r : Str} {X : Option (List Int × Str)} (hX : X = (dB_ (n - i) r).map fun z => (l ++ z.1, z.2)) (hi : i < n) (h : eE_ r = none) : X = none := by
  obtain ⟨k, hk⟩ : ∃ k, n - i = k + 1 := ⟨n - i - 1, by omega⟩
  rw [hX, hk, fT_, h]; rfl
theorem fV_ {n i : Nat} {l : List Int} {r r' : Str} {v : Int} {X : Option (List Int × Str)} (hX : X = (dB_ (n - i) r).map fun z => (l ++ z.1, z.2)) (hi : i < n) (h : eE_ r = some (v, r')) : X = (dB_ (n - (i + 1)) r').map fun z => ((l ++ [v]) ++ z.1, z.2) := by
  obtain ⟨k, hk⟩ : ∃ k, n - i = k + 1 := ⟨n - i - 1, by omega⟩
  rw [hX, hk, show n - (i + 1) = k by omega, fT_, h, Option.bind_some, Option.map_map]
  congr 1
  funext z
  simp
theorem kX_ {n i : Nat} {l : List Int} {r : Str} {X : Option (List Int × Str)} (hX : X = (dB_ (n - i) r).map fun z => (l ++ z.1, z.2)) (hi : n ≤ i) : X = some (l, r) := by
  rw [hX, show n - i = 0 by omega]; simp [dB_]
section
variable {P : Program} {N : Nf} {v0 : Vw} {H0 : Hp} {R : Exit → Act → World → Prop} {K : List Kt} {fr : Fr} {H : Hp} {Γ : List Fct}
variable {ops : Array Oper} {l : List Oper} {d : Nat} {ty : TypeId} {ps : String} {af : Array Edge}
theorem hd_ {t : TypeId} {x y : Operand} {b off : Nat} {cs : List Value} {T : TypeId} {u : Value} {F : Hp} (hs : ∀ w, (sizeOf t).run P w = .ok 1 w)
    (hx : Fr.ev fr x = some (.pointer (some ⟨b, off, none⟩))) (hy : Fr.ev fr y = some u) (hp : H.Perm ((b, .cells cs.toArray T (0, 0)) :: F)) (ho : off < cs.length) (hu : u.cells = #[u]) (h1c : u.oneCell' = true)
    (hk : Ops P R N v0 H0 ops l K fr ((b, .cells (cs.set off u).toArray T (0, 0)) :: F) Γ) :
    Ops P R N v0 H0 ops (⟨none, .store t x y, ty, ps, af, none⟩ :: l) K fr H Γ := by
  refine as_ hp (Q_ 0 hs hx hy rfl (by rw [hu]; rfl) (Nat.ble_eq_true_of_le (by simp only [List.size_toArray]; omega)) (by rw [hu]; simp [h1c]) ?_)
  have e : (cs.toArray.toList.take off ++ u.cells.toList ++ cs.toArray.toList.drop (off + 1)) = cs.set off u := by
    rw [hu, List.set_eq_take_append_cons_drop, if_pos ho]
    simp
  rw [e]
  exact hk
theorem im_ : ∀ (l : Str) (s : ByteArray), (l.map fun c => (c.toNat : Int)).foldl (fun r n => r.push (UInt8.ofNat n.toNat)) s = ⟨s.data ++ l.toArray⟩
  | [], s => by simp
  | c :: l, s => by
    rw [List.map_cons, List.foldl_cons, im_ l]
    have : UInt8.ofNat ((c.toNat : Int).toNat) = c := by simp
    rw [this]
    congr 1
    simp [ByteArray.push]
theorem lX_ (l : Str) : l.flatMap u8C = (l.map fun c => (c.toNat : Int)).map (Value.int .u8) := by
  induction l with
  | nil => rfl
  | cons c l ih => rw [List.flatMap_cons, ih]; rfl
theorem ei_ {t t' e : TypeId} {x : Operand} {ad : Option Addr} {s : Str} {c : Nat} (hs : P.underlying t = some (.slice e)) (he : P.underlying e = some (.int .u8)) (hd : P.underlying t' = some .string)
    (hx : Fr.ev fr x = some (.slice ad s.length c)) (hr : ∀ v, v.sat H → aD_ Γ v → bV_ v ad (s.flatMap u8C)) : Yld P N fr H Γ (.convert t t' x) ty (str s) :=
  fun a v h1 h2 h4 _ _ _ => by
    have hr' := hr v h2 h4
    have key : (convert t t' (.slice ad s.length c)).run P v.w = .ok (str s) v.w := by
      rw [run_convert_bytes_string v.w t t' e ad _ _ hs he hd]
      have hnil : s.flatMap u8C = [] → s = [] := fun q => by
        have := congrArg List.length q
        rw [lX_] at this
        exact List.eq_nil_of_length_eq_zero (by simpa using this)
      cases ad with
      | none =>
        rcases hr' with q | ⟨b, off, arr, T, fz, q, _⟩
        · rw [hnil q]; rfl
        · cases q
      | some a0 =>
        have hl : (loadCells a0 s.length).run P v.w = .ok ((s.map fun c => (c.toNat : Int)).map (Value.int .u8)).toArray v.w := by
          have := run_loadCells_list (P := P) (w := v.w) a0 (s.flatMap u8C) (fun j u hj => by
            rcases hr' with q | ⟨b, off, arr, T, fz, q, _, h3, h5⟩
            · rw [q] at hj; simp at hj
            · rw [Option.some.injEq] at q
              subst q
              have := h5 j u hj
              rw [cT_]
              simp [World.cell?, h3, this])
          rw [lX_] at this
          simpa using this
        rw [run_bytesToString v.w a0 s.length c _ hl, im_]
        rw [show ByteArray.empty.data = #[] from rfl]
        simp [str]
    simp only [execOp, h1.ev hx, Sem.run_bind, key, Result.andThen_ok, Sem.run_pure]
end
end Go.Sx
namespace Go.Vs
open Go Go.Sx
def I64 (n : Int) : Prop := -9223372036854775808 ≤ n ∧ n ≤ 9223372036854775807
instance (n : Int) : Decidable (I64 n) := by unfold I64; infer_instance
instance (f : Fc) : Decidable f.sml := by unfold Fc.sml; infer_instance
theorem eN_ {n : Int} (h0 : 0 ≤ n) (h : n < 18446744073709551616) : (bits n : Int) = n := by
  unfold bits
  rw [show n.emod 18446744073709551616 = n from Int.emod_eq_of_lt h0 h]
  omega
theorem li_ {n : Int} (h0 : n < 0) (h : -9223372036854775808 ≤ n) : (bits n : Int) = n + 18446744073709551616 := by
  have e : n.emod 18446744073709551616 = n + 18446744073709551616 := by
    show n % 18446744073709551616 = _
    omega
  unfold bits
  rw [e]; omega
theorem gy_ (n : Int) (k : Nat) (r : Str) : cQ_ k (ac_ n k ++ r) = some (bits n % 256 ^ k, r) := by
  rw [fS_ (by simp [bf_])]
  have e : (ac_ n k ++ r).take k = ac_ n k := by rw [List.take_left' (bf_ n k)]
  have e2 : (ac_ n k ++ r).drop k = r := by rw [List.drop_left' (bf_ n k)]
  rw [e, e2, lj_]
theorem gN_ {n : Int} (h0 : 0 ≤ n) (h : n ≤ 255) (r : Str) : dk_ (ac_ n 1 ++ r) = some (n, r) := by
  have hb := eN_ h0 (by omega)
  unfold dk_
  rw [gy_, show bits n % 256 ^ 1 = bits n by rw [Nat.pow_one]; exact Nat.mod_eq_of_lt (by omega)]
  simp [hb]
theorem jV_ {n : Int} (h0 : 0 ≤ n) (h : n ≤ 2147483647) (r : Str) : eE_ (ac_ n 4 ++ r) = some (n, r) := by
  have hb := eN_ h0 (by omega)
  have e : (256 : Nat) ^ 4 = 4294967296 := by decide
  rw [je_ (v := bits n) (r' := r) (by rw [gy_, show bits n % 256 ^ 4 = bits n by rw [e]; exact Nat.mod_eq_of_lt (by omega)]) (by omega), hb]
theorem kN_ {n : Int} (h : I64 n) (r : Str) : eX_ (ac_ n 8 ++ r) = some (n, r) := by
  obtain ⟨h1, h2⟩ := h
  have e : (256 : Nat) ^ 8 = 18446744073709551616 := by decide
  unfold eX_
  rw [gy_, e]
  by_cases h0 : 0 ≤ n
  · have hb := eN_ h0 (by omega)
    rw [Nat.mod_eq_of_lt (by omega)]
    simp only [Option.map_some, cq_]
    rw [if_pos (by omega), hb]
  · have hb := li_ (by omega) h1
    rw [Nat.mod_eq_of_lt (by omega)]
    simp only [Option.map_some, cq_]
    rw [if_neg (by omega), hb]
    congr 2
    omega
theorem hE_ {s : Str} (h : s.length ≤ 65535) (r : Str) : dF_ (aF_ s ++ r) = some (s, r) := by
  have hb := eN_ (n := (s.length : Int)) (by omega) (by omega)
  have e : (256 : Nat) ^ 2 = 65536 := by decide
  have hi : cQ_ 2 (aF_ s ++ r) = some (s.length, s ++ r) := by
    rw [aF_, List.append_assoc, gy_, show bits (s.length : Int) % 256 ^ 2 = s.length by rw [e, Nat.mod_eq_of_lt (by omega)]; omega]
  rw [lr_ hi (by simp)]
  simp
theorem kV_ : ∀ (l : List Int), (∀ q ∈ l, 0 ≤ q ∧ q ≤ 2147483647) → ∀ r : Str, dB_ l.length ((l.flatMap fun q => ac_ q 4) ++ r) = some (l, r)
  | [], _, _ => rfl
  | q :: l, h, r => by
    have hq := h q List.mem_cons_self
    rw [List.length_cons, fT_, List.flatMap_cons, List.append_assoc, jV_ hq.1 hq.2, Option.bind_some, kV_ l (fun z hz => h z (List.mem_cons_of_mem _ hz)) r]
    rfl
theorem nD_ {s : Stp} (h : dI_ s = true) (hl : I64 s.fact.lo) (hh : I64 s.fact.hi) (r : Str) : eU_ (bL_ s ++ r) = some (s.ds, r) := by
  obtain ⟨h1, h2, h3, h4, h5, h6, h7, h8, h9, h10, h11⟩ := dH_.1 h
  have e : bL_ s ++ r = ac_ s.rule 1 ++ (ac_ s.fact.kind 1 ++ (aF_ s.fact.a ++ (aF_ s.fact.b ++ (aF_ s.fact.r ++ (ac_ s.fact.lo 8 ++ (ac_ s.fact.hi 8 ++ (ac_ (s.piece + 1) 4 ++ (ac_ (s.frm.length : Int) 1 ++ ((s.frm.flatMap fun q => ac_ q 4) ++ r))))))))) := by
    simp [bL_, List.append_assoc]
  rw [cY_, e]
  simp only [gN_ h1 h2, gN_ h3 h4, hE_ h9, hE_ h10, hE_ h11, kN_ hl, kN_ hh, jV_ (n := s.piece + 1) (by omega) (by omega), gN_ (n := (s.frm.length : Int)) (by omega) (by omega), Option.bind_some, Int.toNat_natCast, kV_ s.frm h8, Option.map_some]
  rw [show s.piece + 1 - 1 = s.piece by omega]
  rfl
theorem iK_ : ∀ (l : List Stp), (∀ s ∈ l, dI_ s = true ∧ I64 s.fact.lo ∧ I64 s.fact.hi) → ∀ r : Str, cy_ l.length (l.flatMap bL_ ++ r) = some (l.map Stp.ds, r)
  | [], _, _ => rfl
  | s :: l, h, r => by
    have hs := h s List.mem_cons_self
    rw [List.length_cons, cy_, List.flatMap_cons, List.append_assoc, nD_ hs.1 hs.2.1 hs.2.2, Option.bind_some, iK_ l (fun z hz => h z (List.mem_cons_of_mem _ hz)) r]
    rfl
theorem mw_ {l : List Stp} {b : Str} {e : Int} (h : dm_ l = (b, e)) : (e = 0 ∧ l.length ≤ 65536 ∧ (∀ s ∈ l, dI_ s = true) ∧ b = jY_ l) ∨ (e ≠ 0 ∧ b = [] ∧ ¬ (l.length ≤ 65536 ∧ ∀ s ∈ l, dI_ s = true)) := by
  unfold dm_ at h
  split at h
  · simp only [Prod.mk.injEq] at h
    exact .inr ⟨by omega, h.1.symm, fun q => by omega⟩
  · split at h
    · rename_i h1 h2
      simp only [Prod.mk.injEq] at h
      exact .inl ⟨h.2.symm, by omega, List.all_eq_true.1 h2, h.1.symm⟩
    · rename_i h1 h2
      simp only [Prod.mk.injEq] at h
      exact .inr ⟨by omega, h.1.symm, fun q => h2 (List.all_eq_true.2 q.2)⟩
theorem mx_ {l : List Stp} {b : Str} (h : dm_ l = (b, 0)) (hi : ∀ s ∈ l, I64 s.fact.lo ∧ I64 s.fact.hi) : hp_ b = some (l.map Stp.ds) := by
  rcases mw_ h with ⟨_, hl, ho, rfl⟩ | ⟨h0, _⟩
  · have e : jY_ l = ac_ (l.length : Int) 4 ++ (l.flatMap bL_ ++ []) := by simp [jY_]
    rw [dn_, e, jV_ (by omega) (by omega), Option.bind_some, if_pos (by omega), Int.toNat_natCast, iK_ l (fun s hs => ⟨ho s hs, hi s hs⟩), Option.bind_some, if_pos rfl]
  · exact absurd rfl h0
theorem oq_ {k v : Nat} {r r' : Str} (h : cQ_ k r = some (v, r')) : ∃ l, r = l ++ r' ∧ l.length = k ∧ beN l = v := by
  by_cases hk : k ≤ r.length
  · rw [fS_ hk] at h
    simp only [Option.some.injEq, Prod.mk.injEq] at h
    exact ⟨r.take k, by rw [← h.2, List.take_append_drop], by rw [List.length_take]; omega, h.1⟩
  · rw [gW_ hk] at h; cases h
theorem hv_ {k v : Nat} {r r' : Str} (h : cQ_ k r = some (v, r')) (hk : k ≤ 8) (n : Int) (hn : bits n % 256 ^ k = v) : r = ac_ n k ++ r' := by
  obtain ⟨l, rfl, rfl, rfl⟩ := oq_ h
  rw [kE_ l hk n hn]
theorem gO_ {r r' : Str} {v : Int} (h : dk_ r = some (v, r')) : r = ac_ v 1 ++ r' := by
  unfold dk_ at h
  cases h1 : cQ_ 1 r with
  | none => rw [h1] at h; cases h
  | some y =>
    rw [h1] at h
    simp only [Option.map_some, Option.some.injEq, Prod.mk.injEq] at h
    have hlt := eL_ (v := y.1) (r' := y.2) h1
    have hb := eN_ (n := (y.1 : Int)) (by omega) (by omega)
    rw [← h.1, ← h.2]
    exact hv_ (v := y.1) h1 (by decide) _ (by rw [Nat.mod_eq_of_lt (by omega)]; omega)
theorem jW_ {r r' : Str} {v : Int} (h : eE_ r = some (v, r')) : r = ac_ v 4 ++ r' := by
  have hv := dY_ h
  unfold eE_ eQ_ at h
  cases h1 : cQ_ 4 r with
  | none => rw [h1] at h; cases h
  | some y =>
    rw [h1, Option.bind_some] at h
    have e : (256 : Nat) ^ 4 = 4294967296 := by decide
    by_cases hy : y.1 ≤ 2147483647
    · rw [if_pos hy] at h
      simp only [Option.map_some, Option.some.injEq, Prod.mk.injEq] at h
      have hb := eN_ (n := (y.1 : Int)) (by omega) (by omega)
      rw [← h.1, ← h.2]
      exact hv_ (v := y.1) h1 (by decide) _ (by rw [e, Nat.mod_eq_of_lt (by omega)]; omega)
    · rw [if_neg hy] at h; cases h
theorem kO_ {r r' : Str} {v : Int} (h : eX_ r = some (v, r')) : r = ac_ v 8 ++ r' := by
  unfold eX_ at h
  cases h1 : cQ_ 8 r with
  | none => rw [h1] at h; cases h
  | some y =>
    rw [h1] at h
    simp only [Option.map_some, Option.some.injEq, Prod.mk.injEq] at h
    have hlt := eL_ (v := y.1) (r' := y.2) h1
    have e : (256 : Nat) ^ 8 = 18446744073709551616 := by decide
    rw [← h.1, ← h.2]
    refine hv_ (v := y.1) h1 (by decide) _ ?_
    unfold cq_
    by_cases h0 : y.1 < 9223372036854775808
    · have hb := eN_ (n := (y.1 : Int)) (by omega) (by omega)
      rw [if_pos h0, e, Nat.mod_eq_of_lt (by omega)]; omega
    · have hb := li_ (n := (y.1 : Int) - 18446744073709551616) (by omega) (by omega)
      rw [if_neg h0, e, Nat.mod_eq_of_lt (by omega)]; omega
theorem hF_ {r r' : Str} {s : Str} (h : dF_ r = some (s, r')) : s.length ≤ 65535 ∧ r = aF_ s ++ r' := by
  cases h1 : cQ_ 2 r with
  | none => rw [ls_ h1] at h; cases h
  | some y =>
    have hlt := eL_ (v := y.1) (r' := y.2) h1
    by_cases hv : y.1 ≤ y.2.length
    · rw [lr_ (v := y.1) (r' := y.2) h1 hv] at h
      simp only [Option.some.injEq, Prod.mk.injEq] at h
      have hs : s.length = y.1 := by rw [← h.1, List.length_take]; omega
      have hb := eN_ (n := (s.length : Int)) (by omega) (by omega)
      have e : (256 : Nat) ^ 2 = 65536 := by decide
      refine ⟨by omega, ?_⟩
      have e2 := hv_ (v := y.1) h1 (by decide) (s.length : Int) (by rw [e, Nat.mod_eq_of_lt (by omega)]; omega)
      rw [e2, aF_, List.append_assoc, ← h.1, ← h.2, List.take_append_drop]
    · rw [nz_ (v := y.1) (r' := y.2) h1 hv] at h; cases h
theorem kW_ : ∀ (n : Nat) (r r' : Str) (l : List Int), dB_ n r = some (l, r') → l.length = n ∧ (∀ q ∈ l, 0 ≤ q ∧ q ≤ 2147483647) ∧ r = (l.flatMap fun q => ac_ q 4) ++ r'
  | 0, r, r', l, h => by
    simp only [dB_, Option.some.injEq, Prod.mk.injEq] at h
    rw [← h.1, ← h.2]; exact ⟨rfl, fun q hq => by simp at hq, rfl⟩
  | n + 1, r, r', l, h => by
    rw [fT_] at h
    cases h1 : eE_ r with
    | none => rw [h1] at h; cases h
    | some y =>
      rw [h1, Option.bind_some] at h
      cases h2 : dB_ n y.2 with
      | none => rw [h2] at h; cases h
      | some z =>
        rw [h2] at h
        simp only [Option.map_some, Option.some.injEq, Prod.mk.injEq] at h
        obtain ⟨q1, q2, q3⟩ := kW_ n y.2 z.2 z.1 h2
        have hb := dY_ (v := y.1) (r' := y.2) h1
        rw [← h.1, ← h.2]
        refine ⟨by simp [q1], fun q hq => ?_, ?_⟩
        · rcases List.mem_cons.1 hq with rfl | hq
          · exact hb
          · exact q2 q hq
        · rw [List.flatMap_cons, List.append_assoc, ← q3]; exact jW_ (v := y.1) (r' := y.2) h1
theorem di_ {α β : Type} {x : Option α} {f : α → Option β} {z : β} (h : x.bind f = some z) : ∃ y, x = some y ∧ f y = some z := Option.bind_eq_some_iff.1 h
theorem nE_ {r r' : Str} {d : Ds} (h : eU_ r = some (d, r')) : ∀ s : Stp, s.ds = d → dI_ s = true ∧ r = bL_ s ++ r' := by
  rw [cY_] at h
  obtain ⟨⟨y1, r1⟩, h1, h⟩ := di_ h
  obtain ⟨⟨y2, r2⟩, h2, h⟩ := di_ h
  obtain ⟨⟨y3, r3⟩, h3, h⟩ := di_ h
  obtain ⟨⟨y4, r4⟩, h4, h⟩ := di_ h
  obtain ⟨⟨y5, r5⟩, h5, h⟩ := di_ h
  obtain ⟨⟨y6, r6⟩, h6, h⟩ := di_ h
  obtain ⟨⟨y7, r7⟩, h7, h⟩ := di_ h
  obtain ⟨⟨y8, r8⟩, h8, h⟩ := di_ h
  obtain ⟨⟨y9, r9⟩, h9, h⟩ := di_ h
  dsimp only at h1 h2 h3 h4 h5 h6 h7 h8 h9 h
  cases h0 : dB_ y9.toNat r9 with
  | none => rw [h0] at h; cases h
  | some z =>
    rw [h0] at h
    simp only [Option.map_some, Option.some.injEq, Prod.mk.injEq] at h
    obtain ⟨q1, q2, q3⟩ := kW_ _ r9 z.2 z.1 h0
    intro s hs
    rw [← h.1] at hs
    simp only [Stp.ds, Ds.mk.injEq] at hs
    obtain ⟨e1, e2, e3, e4⟩ := hs
    have b1 := gp_ h1; have b2 := gp_ h2; have b8 := dY_ h8; have b9 := gp_ h9
    have t3 := hF_ h3; have t4 := hF_ h4; have t5 := hF_ h5
    have el : (s.frm.length : Int) = y9 := by rw [e4]; omega
    refine ⟨dH_.2 ⟨by omega, by omega, by rw [e2]; exact b2.1, by rw [e2]; exact b2.2, by omega, by omega, by omega, by rw [e4]; exact q2, by rw [e2]; exact t3.1, by rw [e2]; exact t4.1, by rw [e2]; exact t5.1⟩, ?_⟩
    have e : bL_ s ++ r' = ac_ s.rule 1 ++ (ac_ s.fact.kind 1 ++ (aF_ s.fact.a ++ (aF_ s.fact.b ++ (aF_ s.fact.r ++ (ac_ s.fact.lo 8 ++ (ac_ s.fact.hi 8 ++ (ac_ (s.piece + 1) 4 ++ (ac_ (s.frm.length : Int) 1 ++ ((s.frm.flatMap fun q => ac_ q 4) ++ r'))))))))) := by
      simp [bL_, List.append_assoc]
    rw [e, e1, e2, e3, el, e4, ← h.2, ← q3, show y8 - 1 + 1 = y8 by omega, ← gO_ h9, ← jW_ h8, ← kO_ h7, ← kO_ h6, ← t5.2, ← t4.2, ← t3.2, ← gO_ h2, ← gO_ h1]
theorem iL_ : ∀ (n : Nat) (r r' : Str) (L : List Ds), cy_ n r = some (L, r') → ∀ l : List Stp, l.map Stp.ds = L → l.length = n ∧ (∀ s ∈ l, dI_ s = true) ∧ r = l.flatMap bL_ ++ r'
  | 0, r, r', L, h, l, hl => by
    simp only [cy_, Option.some.injEq, Prod.mk.injEq] at h
    obtain ⟨rfl, rfl⟩ := h
    obtain rfl := List.map_eq_nil_iff.1 hl
    exact ⟨rfl, fun s hs => by simp at hs, rfl⟩
  | n + 1, r, r', L, h, l, hl => by
    rw [cy_] at h
    obtain ⟨⟨d, r1⟩, h1, h⟩ := di_ h
    cases h2 : cy_ n r1 with
    | none => simp only [h2, Option.map_none] at h; cases h
    | some z =>
      simp only [h2, Option.map_some, Option.some.injEq, Prod.mk.injEq] at h
      obtain ⟨rfl, rfl⟩ := h
      obtain ⟨s, l', rfl, e1, e2⟩ := List.map_eq_cons_iff.1 hl
      obtain ⟨q1, q2, q3⟩ := iL_ n r1 z.2 z.1 h2 l' e2
      obtain ⟨k1, k2⟩ := nE_ h1 s e1
      refine ⟨by simp [q1], fun x hx => ?_, ?_⟩
      · rcases List.mem_cons.1 hx with rfl | hx
        · exact k1
        · exact q2 x hx
      · rw [List.flatMap_cons, List.append_assoc, ← q3]; exact k2
theorem mv_ {b : Str} {L : List Ds} (h : hp_ b = some L) (l : List Stp) (hl : l.map Stp.ds = L) : dm_ l = (b, 0) := by
  rw [dn_] at h
  obtain ⟨⟨y, r1⟩, h1, h⟩ := di_ h
  dsimp only at h
  by_cases hy : y ≤ 65536
  · rw [if_pos hy] at h
    obtain ⟨⟨z, r2⟩, h2, h⟩ := di_ h
    dsimp only at h
    by_cases hr : r2 = []
    · rw [if_pos hr, Option.some.injEq] at h
      subst hr; subst h
      obtain ⟨q1, q2, q3⟩ := iL_ _ r1 [] z h2 l hl
      have hb := dY_ h1
      unfold dm_
      rw [if_neg (by omega), if_pos (List.all_eq_true.2 q2), jY_, show (l.length : Int) = y by omega, ← List.append_nil (List.flatMap bL_ l), ← q3, ← jW_ h1]
    · rw [if_neg hr] at h; cases h
  · rw [if_neg hy] at h; cases h
structure Fc.lim (f : Fc) : Prop where
  a : f.a.length ≤ 140737488351232
  b : f.b.length ≤ 140737488351232
  r : f.r.length ≤ 140737488351232
structure Pc.lim (p : Pc) : Prop where
  a : p.a.length ≤ 140737488351232
  b : p.b.length ≤ 140737488351232
  c : p.c.length ≤ 140737488351232
  r : p.r.length ≤ 140737488351232
  s : p.s.length ≤ 140737488351232
  t : p.t.length ≤ 140737488351232
def Stp.few (s : Stp) : Prop := s.frm.length ≤ 300 ∧ s.fact.a.length + s.fact.b.length + s.fact.r.length ≤ 1500
theorem Stp.few.sml {s : Stp} (h : s.few) : s.fact.sml := by obtain ⟨_, h⟩ := h; exact ⟨by omega, by omega, by omega⟩
structure SameS (Y Z : List Stp) : Prop where
  len : Y.length = Z.length
  eq : ∀ (i : Nat) s t, Y[i]? = some s → Z[i]? = some t → s.rule = t.rule ∧ s.fact = t.fact ∧ s.piece = t.piece ∧ s.frm = t.frm
theorem gq_ {Y Z : List Stp} (h : Y.map Stp.ds = Z.map Stp.ds) : SameS Y Z := by
  refine ⟨by have := congrArg List.length h; simpa using this, fun i s t hs ht => ?_⟩
  have := congrArg (fun l => l[i]?) h
  simp only [List.getElem?_map, hs, ht, Option.map_some, Option.some.injEq, Stp.ds, Ds.mk.injEq] at this
  exact ⟨this.1, this.2.1, this.2.2.1, this.2.2.2⟩
end Go.Vs
namespace Go.Proofs.YtaffcjgphlhppaaGreatDoor
open Go Go.Sx Go.Proofs
attribute [local irreducible] Code.wp wpList wpAnyH
open Go.Vs
theorem dj_ (s : Str) (hs : s.length ≤ 140737488351232) : Fn0 Tryz.prog 148 #[str s] (.bool (bG_ s)) := by
  refine S_ Tryz.func148 rfl rfl Tryz.ntmps148 rfl fun v0 => ?_
  refine g_ (c_ (a_ (e_ rfl) rfl (d_ (b_ rfl (g_ (c_ (a_ (f_ rfl) rfl (K_ (eM_ s hs) rfl x_ (fun _ _ _ => by exact trivial) rfl fun _ => ?_))))))))
  refine E_ (aG_ rfl rfl) rfl fun r1 hr1 => ?_
  refine a_ (e_ rfl) rfl (d_ (b_ rfl (u_ ?_)))
  exact Y_ Tryz.results148 () (s_ rfl (by cases h : bG_ s <;> simp_all)) (.refl _) (fun _ _ _ => trivial)
theorem fd_ (s : Str) (hs : s.length ≤ 140737488351232) : Fn0 Tryz.prog 146 #[str s] (.bool (br_ s)) := by
 refine S_ Tryz.func146 rfl rfl Tryz.ntmps146 rfl fun v0 => ?_
 refine g_ (c_ (a_ (e_ rfl) rfl (d_ (b_ rfl (g_ (c_ (a_ (f_ rfl) rfl (a_ (cd_ aa_ rfl) rfl (a_ (e_ rfl) rfl ?_)))))))))
 refine d_ (b_ rfl (g_ (ae_ (g_ (c_ (a_ (f_ rfl) rfl (E_ (bo_ rfl rfl) rfl fun r1 hr1 => ?_)))))))
 refine a_ (f_ rfl) rfl ?_
 cases r1
 ·
  replace hr1 := ne_of_beq_false hr1
  refine i_ rfl rfl (a_ (f_ rfl) rfl (i_ rfl rfl (E_ (bo_ rfl rfl) rfl fun r2 hr2 => ?_)))
  refine a_ (t_ rfl rfl) rfl (a_ (e_ rfl) rfl (d_ (b_ rfl ?_)))
  cases r2
  ·
   replace hr2 := ne_of_beq_false hr2
   refine A_ rfl (g_ (c_ (a_ (f_ rfl) rfl (E_ (cw_ rfl rfl) rfl fun r3 hr3 => ?_))))
   refine a_ (f_ rfl) rfl ?_
   cases r3
   ·
    replace hr3 := of_decide_eq_false hr3
    refine k_ rfl rfl rfl rfl (k_ rfl rfl rfl rfl (k_ rfl rfl rfl rfl (a_ (t_ rfl rfl) rfl (a_ (f_ rfl) rfl (k_ rfl rfl rfl rfl (k_ rfl rfl rfl rfl (k_ rfl rfl rfl rfl (k_ rfl rfl rfl rfl (k_ rfl rfl rfl rfl ?_)))))))))
    refine a_ (t_ rfl rfl) rfl (a_ (e_ rfl) rfl (d_ (b_ rfl (A_ rfl (g_ (c_ (a_ (f_ rfl) rfl (E_ (cw_ rfl rfl) rfl fun r4 hr4 => ?_))))))))
    refine a_ (f_ rfl) rfl ?_
    cases r4
    ·
     replace hr4 := of_decide_eq_false hr4
     refine k_ rfl rfl rfl rfl (k_ rfl rfl rfl rfl (k_ rfl rfl rfl rfl (a_ (t_ rfl rfl) rfl (a_ (f_ rfl) rfl (k_ rfl rfl rfl rfl (k_ rfl rfl rfl rfl (k_ rfl rfl rfl rfl (k_ rfl rfl rfl rfl (k_ rfl rfl rfl rfl ?_)))))))))
     refine a_ (t_ rfl rfl) rfl (a_ (e_ rfl) rfl (d_ (b_ rfl (A_ rfl (J_ (b_ rfl (g_ (c_ (a_ (f_ rfl) rfl ?_)))))))))
     refine ah_ (dj_ _ (by first | exact hs | (simp; omega))) rfl x_ (fun _ _ _ => by exact trivial) rfl fun r5 hr5 => ?_
     refine a_ (e_ rfl) rfl (d_ (b_ rfl (u_ ?_)))
     exact Y_ cv_ () (s_ rfl (by unfold br_; (repeat (any_goals split)) <;> first | rfl | (simp_all; done) | (exfalso; simp_all; omega) | (exfalso; simp_all; done))) (.refl _) (fun _ _ _ => trivial)
    ·
     replace hr4 := of_decide_eq_true hr4
     exfalso; omega
   ·
    replace hr3 := of_decide_eq_true hr3
    obtain ⟨c, hc⟩ : ∃ c, s[0]? = some c := ⟨_, List.getElem?_eq_getElem (by omega)⟩
    obtain ⟨e, he⟩ : ∃ e, s[s.length - 1]? = some e := ⟨_, List.getElem?_eq_getElem (by omega)⟩
    have hc123 : (s[0]? = some 123) ↔ ((c.toNat : Int) = 123) := by
              rw [hc]; simp only [Option.some.injEq]; exact ⟨fun q => by subst q; rfl, fun q => UInt8.toNat_inj.1 (by show c.toNat = 123; omega)⟩
    have he125 : (s[s.length - 1]? = some 125) ↔ ((e.toNat : Int) = 125) := by
              rw [he]; simp only [Option.some.injEq]; exact ⟨fun q => by subst q; rfl, fun q => UInt8.toNat_inj.1 (by show e.toNat = 125; omega)⟩
    have hc60 : (s[0]? = some 60) ↔ ((c.toNat : Int) = 60) := by
              rw [hc]; simp only [Option.some.injEq]; exact ⟨fun q => by subst q; rfl, fun q => UInt8.toNat_inj.1 (by show c.toNat = 60; omega)⟩
    have he62 : (s[s.length - 1]? = some 62) ↔ ((e.toNat : Int) = 62) := by
              rw [he]; simp only [Option.some.injEq]; exact ⟨fun q => by subst q; rfl, fun q => UInt8.toNat_inj.1 (by show e.toNat = 62; omega)⟩
    refine i_ rfl rfl (a_ (f_ rfl) rfl (i_ rfl rfl (a_ (ck_ aa_ rfl rfl (by decide) hc) rfl (i_ rfl rfl (E_ (aG_ rfl rfl) rfl fun r6 hr6 => ?_)))))
    refine a_ (v_ rfl rfl) rfl (a_ (f_ rfl) rfl ?_)
    cases r6
    ·
     replace hr6 := ne_of_beq_false hr6
     refine k_ rfl rfl rfl rfl (k_ rfl rfl rfl rfl (k_ rfl rfl rfl rfl (k_ rfl rfl rfl rfl (k_ rfl rfl rfl rfl (a_ (t_ rfl rfl) rfl (a_ (e_ rfl) rfl (d_ (b_ rfl (A_ rfl ?_)))))))))
     refine g_ (c_ (a_ (f_ rfl) rfl (E_ (cw_ rfl rfl) rfl fun r7 hr7 => ?_)))
     refine a_ (f_ rfl) rfl ?_
     cases r7
     ·
      replace hr7 := of_decide_eq_false hr7
      refine k_ rfl rfl rfl rfl (k_ rfl rfl rfl rfl (k_ rfl rfl rfl rfl (a_ (t_ rfl rfl) rfl (a_ (f_ rfl) rfl (k_ rfl rfl rfl rfl (k_ rfl rfl rfl rfl (k_ rfl rfl rfl rfl (k_ rfl rfl rfl rfl (k_ rfl rfl rfl rfl ?_)))))))))
      refine a_ (t_ rfl rfl) rfl (a_ (e_ rfl) rfl (d_ (b_ rfl (A_ rfl (J_ (b_ rfl (g_ (c_ (a_ (f_ rfl) rfl ?_)))))))))
      refine ah_ (dj_ _ (by first | exact hs | (simp; omega))) rfl x_ (fun _ _ _ => by exact trivial) rfl fun r8 hr8 => ?_
      refine a_ (e_ rfl) rfl (d_ (b_ rfl (u_ ?_)))
      exact Y_ cv_ () (s_ rfl (by unfold br_; (repeat (any_goals split)) <;> first | rfl | (simp_all; done) | (exfalso; simp_all; omega) | (exfalso; simp_all; done))) (.refl _) (fun _ _ _ => trivial)
     ·
      replace hr7 := of_decide_eq_true hr7
      refine i_ rfl rfl (a_ (f_ rfl) rfl (i_ rfl rfl (a_ (ck_ aa_ rfl rfl (by decide) hc) rfl (i_ rfl rfl (E_ (aG_ rfl rfl) rfl fun r9 hr9 => ?_)))))
      refine a_ (v_ rfl rfl) rfl (a_ (f_ rfl) rfl ?_)
      cases r9
      ·
       replace hr9 := ne_of_beq_false hr9
       refine k_ rfl rfl rfl rfl (k_ rfl rfl rfl rfl (k_ rfl rfl rfl rfl (k_ rfl rfl rfl rfl (k_ rfl rfl rfl rfl (a_ (t_ rfl rfl) rfl (a_ (e_ rfl) rfl (d_ (b_ rfl (A_ rfl ?_)))))))))
       refine J_ (b_ rfl (g_ (c_ (a_ (f_ rfl) rfl (ah_ (dj_ _ (by first | exact hs | (simp; omega))) rfl x_ (fun _ _ _ => by exact trivial) rfl fun r10 hr10 => ?_)))))
       refine a_ (e_ rfl) rfl (d_ (b_ rfl (u_ ?_)))
       exact Y_ cv_ () (s_ rfl (by unfold br_; (repeat (any_goals split)) <;> first | rfl | (simp_all; done) | (exfalso; simp_all; omega) | (exfalso; simp_all; done))) (.refl _) (fun _ _ _ => trivial)
      ·
       replace hr9 := eq_of_beq hr9
       refine i_ rfl rfl (a_ (f_ rfl) rfl (i_ rfl rfl (a_ (f_ rfl) rfl (i_ rfl rfl (a_ (ag_ rfl rfl rfl (aS_ (by omega) (by omega))) rfl (i_ rfl rfl (a_ (ck_ aa_ rfl rfl (by omega) (show s[((s.length : Int) - 1).toNat]? = some e by rw [show ((s.length : Int) - 1).toNat = s.length - 1 by omega]; exact he)) rfl (i_ rfl rfl (E_ (aG_ rfl rfl) rfl fun r11 hr11 => ?_)))))))))
       refine a_ (v_ rfl rfl) rfl (a_ (e_ rfl) rfl (d_ (b_ rfl ?_)))
       cases r11
       ·
        replace hr11 := ne_of_beq_false hr11
        refine A_ rfl (J_ (b_ rfl (g_ (c_ (a_ (f_ rfl) rfl (ah_ (dj_ _ (by first | exact hs | (simp; omega))) rfl x_ (fun _ _ _ => by exact trivial) rfl fun r12 hr12 => ?_))))))
        refine a_ (e_ rfl) rfl (d_ (b_ rfl (u_ ?_)))
        exact Y_ cv_ () (s_ rfl (by unfold br_; (repeat (any_goals split)) <;> first | rfl | (simp_all; done) | (exfalso; simp_all; omega) | (exfalso; simp_all; done))) (.refl _) (fun _ _ _ => trivial)
       ·
        replace hr11 := eq_of_beq hr11
        refine w_ rfl (g_ (c_ (a_ (e_ rfl) rfl (d_ (b_ rfl (u_ ?_))))))
        exact Y_ cv_ () (s_ rfl (by unfold br_; (repeat (any_goals split)) <;> first | rfl | (simp_all; done) | (exfalso; simp_all; omega) | (exfalso; simp_all; done))) (.refl _) (fun _ _ _ => trivial)
    ·
     replace hr6 := eq_of_beq hr6
     refine i_ rfl rfl (a_ (f_ rfl) rfl (i_ rfl rfl (a_ (f_ rfl) rfl (i_ rfl rfl (a_ (ag_ rfl rfl rfl (aS_ (by omega) (by omega))) rfl (i_ rfl rfl (a_ (ck_ aa_ rfl rfl (by omega) (show s[((s.length : Int) - 1).toNat]? = some e by rw [show ((s.length : Int) - 1).toNat = s.length - 1 by omega]; exact he)) rfl (i_ rfl rfl (E_ (aG_ rfl rfl) rfl fun r13 hr13 => ?_)))))))))
     refine a_ (v_ rfl rfl) rfl (a_ (e_ rfl) rfl (d_ (b_ rfl ?_)))
     cases r13
     ·
      replace hr13 := ne_of_beq_false hr13
      refine A_ rfl (g_ (c_ (a_ (f_ rfl) rfl (E_ (cw_ rfl rfl) rfl fun r14 hr14 => ?_))))
      refine a_ (f_ rfl) rfl ?_
      cases r14
      ·
       replace hr14 := of_decide_eq_false hr14
       refine k_ rfl rfl rfl rfl (k_ rfl rfl rfl rfl (k_ rfl rfl rfl rfl (a_ (t_ rfl rfl) rfl (a_ (f_ rfl) rfl (k_ rfl rfl rfl rfl (k_ rfl rfl rfl rfl (k_ rfl rfl rfl rfl (k_ rfl rfl rfl rfl (k_ rfl rfl rfl rfl ?_)))))))))
       refine a_ (t_ rfl rfl) rfl (a_ (e_ rfl) rfl (d_ (b_ rfl (A_ rfl (J_ (b_ rfl (g_ (c_ (a_ (f_ rfl) rfl ?_)))))))))
       refine ah_ (dj_ _ (by first | exact hs | (simp; omega))) rfl x_ (fun _ _ _ => by exact trivial) rfl fun r15 hr15 => ?_
       refine a_ (e_ rfl) rfl (d_ (b_ rfl (u_ ?_)))
       exact Y_ cv_ () (s_ rfl (by unfold br_; (repeat (any_goals split)) <;> first | rfl | (simp_all; done) | (exfalso; simp_all; omega) | (exfalso; simp_all; done))) (.refl _) (fun _ _ _ => trivial)
      ·
       replace hr14 := of_decide_eq_true hr14
       refine i_ rfl rfl (a_ (f_ rfl) rfl (i_ rfl rfl (a_ (ck_ aa_ rfl rfl (by decide) hc) rfl (i_ rfl rfl (E_ (aG_ rfl rfl) rfl fun r16 hr16 => ?_)))))
       refine a_ (v_ rfl rfl) rfl (a_ (f_ rfl) rfl ?_)
       cases r16
       ·
        replace hr16 := ne_of_beq_false hr16
        refine k_ rfl rfl rfl rfl (k_ rfl rfl rfl rfl (k_ rfl rfl rfl rfl (k_ rfl rfl rfl rfl (k_ rfl rfl rfl rfl (a_ (t_ rfl rfl) rfl (a_ (e_ rfl) rfl (d_ (b_ rfl (A_ rfl ?_)))))))))
        refine J_ (b_ rfl (g_ (c_ (a_ (f_ rfl) rfl (ah_ (dj_ _ (by first | exact hs | (simp; omega))) rfl x_ (fun _ _ _ => by exact trivial) rfl fun r17 hr17 => ?_)))))
        refine a_ (e_ rfl) rfl (d_ (b_ rfl (u_ ?_)))
        exact Y_ cv_ () (s_ rfl (by unfold br_; (repeat (any_goals split)) <;> first | rfl | (simp_all; done) | (exfalso; simp_all; omega) | (exfalso; simp_all; done))) (.refl _) (fun _ _ _ => trivial)
       ·
        replace hr16 := eq_of_beq hr16
        refine i_ rfl rfl (a_ (f_ rfl) rfl (i_ rfl rfl (a_ (f_ rfl) rfl (i_ rfl rfl (a_ (ag_ rfl rfl rfl (aS_ (by omega) (by omega))) rfl (i_ rfl rfl (a_ (ck_ aa_ rfl rfl (by omega) (show s[((s.length : Int) - 1).toNat]? = some e by rw [show ((s.length : Int) - 1).toNat = s.length - 1 by omega]; exact he)) rfl (i_ rfl rfl (E_ (aG_ rfl rfl) rfl fun r18 hr18 => ?_)))))))))
        refine a_ (v_ rfl rfl) rfl (a_ (e_ rfl) rfl (d_ (b_ rfl ?_)))
        cases r18
        ·
         replace hr18 := ne_of_beq_false hr18
         refine A_ rfl (J_ (b_ rfl (g_ (c_ (a_ (f_ rfl) rfl (ah_ (dj_ _ (by first | exact hs | (simp; omega))) rfl x_ (fun _ _ _ => by exact trivial) rfl fun r19 hr19 => ?_))))))
         refine a_ (e_ rfl) rfl (d_ (b_ rfl (u_ ?_)))
         exact Y_ cv_ () (s_ rfl (by unfold br_; (repeat (any_goals split)) <;> first | rfl | (simp_all; done) | (exfalso; simp_all; omega) | (exfalso; simp_all; done))) (.refl _) (fun _ _ _ => trivial)
        ·
         replace hr18 := eq_of_beq hr18
         refine w_ rfl (g_ (c_ (a_ (e_ rfl) rfl (d_ (b_ rfl (u_ ?_))))))
         exact Y_ cv_ () (s_ rfl (by unfold br_; (repeat (any_goals split)) <;> first | rfl | (simp_all; done) | (exfalso; simp_all; omega) | (exfalso; simp_all; done))) (.refl _) (fun _ _ _ => trivial)
     ·
      replace hr13 := eq_of_beq hr13
      refine w_ rfl (g_ (c_ (a_ (f_ rfl) rfl (a_ (f_ rfl) rfl (a_ (ag_ rfl rfl rfl (aS_ (by omega) (by omega))) rfl (a_ (dP_ (i := 1) (j := s.length - 1) (kl := .i64) (kh := .i64) aa_ rfl rfl (show _ = some (Value.int .i64 ((s.length - 1 : Nat) : Int)) by rw [show ((s.length - 1 : Nat) : Int) = (s.length : Int) - 1 by omega]; rfl) (by omega) (by omega)) rfl (ah_ (dj_ _ (by first | exact hs | (simp; omega))) rfl x_ (fun _ _ _ => by exact trivial) rfl fun r20 hr20 => ?_)))))))
      refine a_ (e_ rfl) rfl (d_ (b_ rfl (u_ ?_)))
      exact Y_ cv_ () (s_ rfl (by unfold br_; (repeat (any_goals split)) <;> first | rfl | (simp_all; done) | (exfalso; simp_all; omega) | (exfalso; simp_all; done))) (.refl _) (fun _ _ _ => trivial)
  ·
   replace hr2 := eq_of_beq hr2
   refine w_ rfl (g_ (c_ (a_ (e_ rfl) rfl (d_ (b_ rfl (u_ ?_))))))
   exact Y_ cv_ () (s_ rfl (by unfold br_; (repeat (any_goals split)) <;> first | rfl | (simp_all; done) | (exfalso; simp_all; omega) | (exfalso; simp_all; done))) (.refl _) (fun _ _ _ => trivial)
 ·
  replace hr1 := eq_of_beq hr1
  refine k_ rfl rfl rfl rfl (k_ rfl rfl rfl rfl (a_ (v_ rfl rfl) rfl (a_ (e_ rfl) rfl (d_ (b_ rfl (w_ rfl (g_ (c_ (a_ (e_ rfl) rfl ?_)))))))))
  refine d_ (b_ rfl (u_ ?_))
  exact Y_ cv_ () (s_ rfl (by unfold br_; (repeat (any_goals split)) <;> first | rfl | (simp_all; done) | (exfalso; simp_all; omega) | (exfalso; simp_all; done))) (.refl _) (fun _ _ _ => trivial)
theorem nk_ (s : Str) (hs : s.length ≤ 17592186044414) : Fn0 Tryz.prog 147 #[str s] (.bool (dd_ s)) := by
  refine S_ Tryz.func147 rfl rfl Tryz.ntmps147 rfl fun v0 => ?_
  have hsl := df_ 46 s
  have hcl := gG_ 46 s
  refine g_ (c_ (a_ (e_ rfl) rfl (d_ (b_ rfl (g_ (c_ (a_ (f_ rfl) rfl (K_ (mb_ s 46 hs) rfl x_ (fun _ _ _ => by exact trivial) rfl fun b => ?_))))))))
  refine a_ (e_ rfl) rfl (d_ (b_ rfl (g_ (g_ (c_ (a_ (f_ rfl) rfl (a_ (aA_ aJ_ rfl) rfl (a_ (f_ rfl) rfl (d_ ?_)))))))))
  refine b_ rfl (ae_ ?_)
  refine bt_ (ι := {y : Nat // y ≤ List.length (bs_ 46 s) ∧ (List.any (List.take y (bs_ 46 s)) fun r => !bG_ r) = false}) (fun y => [(2, .bool false), (3, .slice (some ⟨b, 0, none⟩) (List.length (bs_ 46 s)) ((bs_ 46 s).length)), (8, .slice (some ⟨b, 0, none⟩) (List.length (bs_ 46 s)) ((bs_ 46 s).length)), (9, .int .i64 (List.length (bs_ 46 s) : Int)), (10, .int .i64 (y.1 : Int))]) (fun y => ([])) (fun y => [aY_ (some ⟨b, 0, none⟩) (List.flatMap dy_ (bs_ 46 s))]) (fun y => List.length (bs_ 46 s) - y.1) ⟨(0 : Nat), by simp, by simp⟩ ⟨rfl, rfl, rfl, rfl, rfl, trivial⟩ x_ (fun _ _ h => h) ?_
  rintro ⟨i, hi_i, hA⟩
  dsimp only at hi_i hA ⊢
  refine g_ (c_ (E_ (au_ rfl rfl) rfl fun r1 hr1 => ?_))
  refine d_ (b_ rfl (g_ ?_))
  cases r1
  · skip
    replace hr1 := of_decide_eq_false hr1
    refine A_ rfl (bj_ rfl (b_ rfl (g_ (c_ (a_ (f_ rfl) rfl (a_ (aA_ aJ_ rfl) rfl (E_ (cb_ rfl rfl) rfl fun r2 hr2 => ?_)))))))
    refine a_ (e_ rfl) rfl (d_ (b_ rfl (u_ ?_)))
    exact Y_ Tryz.results147 () (s_ rfl (by unfold dd_; rw [show (bs_ 46 s).any (fun r => !bG_ r) = false from by have q := hA; rw [List.take_of_length_le (by omega)] at q; exact q]; subst_vars; rw [Bool.eq_iff_iff]; simp <;> omega)) x_ (fun _ _ _ => trivial)
  · skip
    replace hr1 := of_decide_eq_true hr1
    have hlx1 : i < List.length (bs_ 46 s) := by omega
    obtain ⟨x1, hx1⟩ : ∃ e0, (bs_ 46 s)[i]? = some e0 := ⟨_, List.getElem?_eq_getElem hlx1⟩
    have hmx1 : x1 ∈ (bs_ 46 s) := List.mem_of_getElem? hx1
    refine w_ rfl (J_ (b_ rfl (g_ (ae_ (g_ (c_ (a_ (an_ aJ_ y_ rfl rfl (fun v _ h => ba_ (n := 1) cs_ (by decide) (by exact h.1) hx1) (by omega) (by first | omega | (simp; done))) rfl (a_ (bE_ (ad := (some ⟨b, 0, none⟩)) H_ rfl (fun v _ h => by exact h.1) (ar_ cs_ hx1 0 _ rfl)) rfl (a_ (e_ rfl) rfl ?_)))))))))
    refine d_ (b_ rfl (g_ (c_ (a_ (f_ rfl) rfl (ah_ (dj_ x1 (by have := eq_ hmx1; omega)) rfl x_ (fun _ _ _ => by exact trivial) rfl fun r3 hr3 => ?_)))))
    refine a_ (bu_ rfl) rfl (d_ (b_ rfl ?_))
    cases r3
    · skip
      refine w_ rfl (g_ (c_ (a_ (e_ rfl) rfl (d_ (b_ rfl (u_ ?_))))))
      exact Y_ Tryz.results147 () (s_ rfl (by unfold dd_; rw [show (bs_ 46 s).any (fun r => !bG_ r) = true from List.any_eq_true.2 ⟨x1, hmx1, by simp [*]⟩]; simp)) x_ (fun _ _ _ => trivial)
    · skip
      refine A_ rfl (J_ (b_ rfl (c_ (a_ (ag_ rfl rfl rfl (aS_ (by omega) (by omega))) rfl (a_ (f_ rfl) rfl (d_ (p_ rfl ?_)))))))
      exact aU_ ⟨i + 1, hlx1, by rw [List.take_add_one, hx1]; simp only [Option.toList_some, List.any_append, hA]; simp [*]⟩ (by dsimp only; omega) ⟨rfl, rfl, rfl, rfl, rfl, trivial⟩ x_ (fun _ _ h => h)
theorem bO_ (a b : Str) : Fn0 Tryz.prog 129 #[str a, str b] (Fc.val (aL_ a b)) := by
  refine S_ Tryz.func129 rfl rfl Tryz.ntmps129 rfl fun v0 => ?_
  refine g_ (c_ (Z_ bl_ rfl fun b1 => ?_))
  refine d_ (b_ rfl (g_ (c_ (a_ (f_ rfl) rfl (a_ (f_ rfl) rfl (a_ (ax_ gc_ rfl rfl) rfl (Q_ 0 l_ rfl rfl rfl rfl rfl rfl (d_ (b_ rfl ?_)))))))))
  refine u_ ?_
  exact et_ () (fun aa v h1 h2 => cG_ (us := Fc.cells (aL_ a b)) 0 Tryz.results129 U_ l_ rfl rfl rfl aa v h1 h2) x_ (fun _ _ _ => trivial)
theorem ea_ (a r b : Str) : Fn0 Tryz.prog 134 #[str a, str r, str b] (Fc.val (bI_ a r b)) := by
  refine S_ Tryz.func134 rfl rfl Tryz.ntmps134 rfl fun v0 => ?_
  refine g_ (c_ (Z_ bl_ rfl fun b1 => ?_))
  refine d_ (b_ rfl (g_ (c_ (a_ (f_ rfl) rfl (a_ (f_ rfl) rfl (a_ (f_ rfl) rfl (a_ (ax_ gc_ rfl rfl) rfl (Q_ 0 l_ rfl rfl rfl rfl rfl rfl (d_ ?_)))))))))
  refine b_ rfl (u_ ?_)
  exact et_ () (fun aa v h1 h2 => cG_ (us := Fc.cells (bI_ a r b)) 0 Tryz.results134 U_ l_ rfl rfl rfl aa v h1 h2) x_ (fun _ _ _ => trivial)
theorem el_ (a r : Str) (lo hi : Int) : Fn0 Tryz.prog 149 #[str a, str r, .int .i64 lo, .int .i64 hi] (Fc.val (am_ a r lo hi)) := by
  refine S_ Tryz.func149 rfl rfl Tryz.ntmps149 rfl fun v0 => ?_
  refine g_ (c_ (Z_ bl_ rfl fun b1 => ?_))
  refine d_ (b_ rfl (g_ (c_ (a_ (f_ rfl) rfl (a_ (f_ rfl) rfl (a_ (f_ rfl) rfl (a_ (f_ rfl) rfl (a_ (ax_ gc_ rfl rfl) rfl (Q_ 0 l_ rfl rfl rfl rfl rfl rfl ?_)))))))))
  refine d_ (b_ rfl (u_ ?_))
  exact et_ () (fun aa v h1 h2 => cG_ (us := Fc.cells (am_ a r lo hi)) 0 Tryz.results149 U_ l_ rfl rfl rfl aa v h1 h2) x_ (fun _ _ _ => trivial)
theorem qf_ (f : Fc) (hsm : f.sml) : Fn0 Tryz.prog 75 #[Fc.val f] (.bool (wf2 f)) := by
 refine S_ Tryz.func75 rfl rfl Tryz.ntmps75 rfl fun v0 => ?_
 obtain ⟨hsa, hsb, hsr⟩ := hsm
 refine g_ (c_ (aM_ rfl rfl fun b1 => ?_))
 refine a_ (e_ rfl) rfl (d_ (b_ rfl (g_ (g_ (c_ (a_ (h_ o_ rfl rfl rfl q_) rfl (a_ (n_ 0 B_ rfl rfl rfl) rfl (d_ (b_ rfl ?_)))))))))
 refine ae_ (g_ (c_ (E_ (aG_ rfl rfl) rfl fun r1 hr1 => ?_)))
 refine a_ (e_ rfl) rfl (d_ (b_ rfl ?_))
 cases r1
 ·
  replace hr1 := ne_of_beq_false hr1
  refine A_ rfl (g_ (c_ (E_ (aG_ rfl rfl) rfl fun r2 hr2 => ?_)))
  refine a_ (e_ rfl) rfl (d_ (b_ rfl ?_))
  cases r2
  ·
   replace hr2 := ne_of_beq_false hr2
   refine A_ rfl (g_ (c_ (E_ (aG_ rfl rfl) rfl fun r3 hr3 => ?_)))
   refine a_ (e_ rfl) rfl (d_ (b_ rfl ?_))
   cases r3
   ·
    replace hr3 := ne_of_beq_false hr3
    refine A_ rfl (J_ (b_ rfl (g_ (c_ (a_ (e_ rfl) rfl (d_ (b_ rfl (u_ ?_))))))))
    exact Y_ cl_ () (s_ rfl (by have p1 := eq_false hr1; have p2 := eq_false hr2; have p3 := eq_false hr3; simp only [wf2, p1, p2, p3, if_true, if_false, decide_true, decide_false, Bool.and_true, Bool.and_false, Bool.true_and, Bool.false_and, Bool.or_true, Bool.or_false, Bool.true_or, Bool.false_or, Bool.not_true, Bool.not_false, ne_eq, not_true_eq_false, not_false_eq_true, true_and, and_true, false_and, and_false, true_or, or_true, false_or, or_false, ite_true, ite_false, Bool.false_eq_true])) x_ (fun _ _ _ => trivial)
   ·
    replace hr3 := eq_of_beq hr3
    refine w_ rfl (g_ ?_)
    refine aW_ (by kernel_rfl) ?_
    refine P_ 37 [0, 1] (by kernel_rfl) (fun _ a b => ⟨a, b⟩) (m_ rfl (h_ o_ rfl rfl rfl y_) rfl (m_ rfl (n_ 0 H_ rfl rfl rfl) rfl (O_ (L_ 2 rfl (by kernel_rfl) (ah_ (fd_ (Fc.a f) (by omega)) rfl x_ (fun _ _ _ => by exact trivial) rfl fun r4 hr4 => ?_)))))
    refine d_ (p_ rfl (D_ (fun _ a b => ⟨a, b⟩) (P_ 35 [3] (by kernel_rfl) (fun _ a b => ⟨a, b⟩) (m_ rfl (f_ rfl) rfl (O_ ?_)))))
    cases r4
    ·
     refine P_ 0 [4, 5, 6, 7, 8, 9, 10, 11, 12, 13, 14, 15, 16, 17, 18, 19, 20, 21, 22, 23, 24, 25, 26, 27, 28, 29, 30, 31, 32, 33, 34, 35, 36, 37, 38] (by kernel_rfl) (fun _ a b => ⟨a, b⟩) (z_ rfl rfl rfl rfl rfl (z_ rfl rfl rfl rfl rfl (z_ rfl rfl rfl rfl rfl (m_ rfl (t_ rfl rfl) rfl (m_ rfl (f_ rfl) rfl (z_ rfl rfl rfl rfl rfl (z_ rfl rfl rfl rfl rfl (z_ rfl rfl rfl rfl rfl (z_ rfl rfl rfl rfl rfl ?_)))))))))
     refine z_ rfl rfl rfl rfl rfl (z_ rfl rfl rfl rfl rfl (z_ rfl rfl rfl rfl rfl (z_ rfl rfl rfl rfl rfl (z_ rfl rfl rfl rfl rfl (z_ rfl rfl rfl rfl rfl (z_ rfl rfl rfl rfl rfl (m_ rfl (t_ rfl rfl) rfl (m_ rfl (f_ rfl) rfl (z_ rfl rfl rfl rfl rfl ?_)))))))))
     refine z_ rfl rfl rfl rfl rfl (z_ rfl rfl rfl rfl rfl (m_ rfl (t_ rfl rfl) rfl (m_ rfl (f_ rfl) rfl (z_ rfl rfl rfl rfl rfl (z_ rfl rfl rfl rfl rfl (z_ rfl rfl rfl rfl rfl (z_ rfl rfl rfl rfl rfl (z_ rfl rfl rfl rfl rfl (m_ rfl (t_ rfl rfl) rfl ?_)))))))))
     refine m_ rfl (f_ rfl) rfl (z_ rfl rfl rfl rfl rfl (z_ rfl rfl rfl rfl rfl (z_ rfl rfl rfl rfl rfl (m_ rfl (t_ rfl rfl) rfl (m_ rfl (e_ rfl) rfl (O_ (T_ (by kernel_rfl) (b_ rfl (u_ ?_)))))))))
     exact Y_ cl_ () (s_ rfl (by have p1 := eq_false hr1; have p2 := eq_false hr2; have p3 := eq_true hr3; simp only [wf2, p1, p2, p3, hr4, if_true, if_false, decide_true, decide_false, Bool.and_true, Bool.and_false, Bool.true_and, Bool.false_and, Bool.or_true, Bool.or_false, Bool.true_or, Bool.false_or, Bool.not_true, Bool.not_false, ne_eq, not_true_eq_false, not_false_eq_true, true_and, and_true, false_and, and_false, true_or, or_true, false_or, or_false, ite_true, ite_false, Bool.false_eq_true])) x_ (fun _ _ _ => trivial)
    ·
     refine P_ 33 [4, 5] (by kernel_rfl) (fun _ a b => ⟨a, b⟩) (r_ rfl rfl rfl (h_ o_ rfl rfl rfl y_) rfl (r_ rfl rfl rfl (n_ 0 H_ rfl rfl rfl) rfl (O_ (L_ 6 rfl (by kernel_rfl) (i_ rfl rfl (ah_ (dj_ (Fc.r f) (by omega)) rfl x_ (fun _ _ _ => by exact trivial) rfl fun r5 hr5 => ?_))))))
     refine d_ (p_ rfl (D_ (fun _ a b => ⟨a, b⟩) (P_ 30 [7, 8] (by kernel_rfl) (fun _ a b => ⟨a, b⟩) (m_ rfl (v_ rfl rfl) rfl (m_ rfl (f_ rfl) rfl (O_ ?_))))))
     cases r5
     ·
      refine P_ 0 [9, 10, 11, 12, 13, 14, 15, 16, 17, 18, 19, 20, 21, 22, 23, 24, 25, 26, 27, 28, 29, 30, 31, 32, 33, 34, 35, 36, 37, 38] (by kernel_rfl) (fun _ a b => ⟨a, b⟩) (z_ rfl rfl rfl rfl rfl (z_ rfl rfl rfl rfl rfl (z_ rfl rfl rfl rfl rfl (z_ rfl rfl rfl rfl rfl (z_ rfl rfl rfl rfl rfl (z_ rfl rfl rfl rfl rfl (z_ rfl rfl rfl rfl rfl (z_ rfl rfl rfl rfl rfl (z_ rfl rfl rfl rfl rfl ?_)))))))))
      refine z_ rfl rfl rfl rfl rfl (z_ rfl rfl rfl rfl rfl (m_ rfl (t_ rfl rfl) rfl (m_ rfl (f_ rfl) rfl (z_ rfl rfl rfl rfl rfl (z_ rfl rfl rfl rfl rfl (z_ rfl rfl rfl rfl rfl (m_ rfl (t_ rfl rfl) rfl (m_ rfl (f_ rfl) rfl (z_ rfl rfl rfl rfl rfl ?_)))))))))
      refine z_ rfl rfl rfl rfl rfl (z_ rfl rfl rfl rfl rfl (z_ rfl rfl rfl rfl rfl (z_ rfl rfl rfl rfl rfl (m_ rfl (t_ rfl rfl) rfl (m_ rfl (f_ rfl) rfl (z_ rfl rfl rfl rfl rfl (z_ rfl rfl rfl rfl rfl (z_ rfl rfl rfl rfl rfl (m_ rfl (t_ rfl rfl) rfl ?_)))))))))
      refine m_ rfl (e_ rfl) rfl (O_ (T_ (by kernel_rfl) (b_ rfl (u_ ?_))))
      exact Y_ cl_ () (s_ rfl (by have p1 := eq_false hr1; have p2 := eq_false hr2; have p3 := eq_true hr3; simp only [wf2, p1, p2, p3, hr4, hr5, if_true, if_false, decide_true, decide_false, Bool.and_true, Bool.and_false, Bool.true_and, Bool.false_and, Bool.or_true, Bool.or_false, Bool.true_or, Bool.false_or, Bool.not_true, Bool.not_false, ne_eq, not_true_eq_false, not_false_eq_true, true_and, and_true, false_and, and_false, true_or, or_true, false_or, or_false, ite_true, ite_false, Bool.false_eq_true])) x_ (fun _ _ _ => trivial)
     ·
      refine P_ 21 [9, 10, 11, 12, 13, 14, 15, 16, 17] (by kernel_rfl) (fun _ a b => ⟨a, b⟩) (r_ rfl rfl rfl (M_ 0 U_ l_ rfl rfl rfl) rfl (r_ rfl rfl rfl (h_ o_ rfl rfl rfl y_) rfl (r_ rfl rfl rfl (n_ 0 H_ rfl rfl rfl) rfl (r_ rfl rfl rfl (h_ o_ rfl rfl rfl y_) rfl (r_ rfl rfl rfl (n_ 0 H_ rfl rfl rfl) rfl (r_ rfl rfl rfl (h_ o_ rfl rfl rfl q_) rfl (r_ rfl rfl rfl (n_ 0 B_ rfl rfl rfl) rfl (r_ rfl rfl rfl (h_ o_ rfl rfl rfl q_) rfl (r_ rfl rfl rfl (n_ 0 B_ rfl rfl rfl) rfl ?_)))))))))
      refine O_ (L_ 18 rfl (by kernel_rfl) (i_ rfl rfl (K_ (el_ (Fc.a f) (Fc.r f) (Fc.lo f) (Fc.hi f)) rfl x_ (fun _ _ _ => by exact trivial) rfl fun _ => ?_)))
      refine d_ (p_ rfl (D_ (fun _ a b => ⟨a, b⟩) (P_ 17 [19, 20, 21] (by kernel_rfl) (fun _ a b => ⟨a, b⟩) ?_)))
      refine az_ rfl rfl rfl (av_ (p := f) (q := (am_ (Fc.a f) (Fc.r f) (Fc.lo f) (Fc.hi f))) rfl rfl) rfl fun r6 hr6 => ?_
      refine m_ rfl (v_ rfl rfl) rfl (m_ rfl (f_ rfl) rfl (O_ ?_))
      cases r6
      ·
       replace hr6 := of_decide_eq_false hr6
       refine P_ 0 [22, 23, 24, 25, 26, 27, 28, 29, 30, 31, 32, 33, 34, 35, 36, 37, 38] (by kernel_rfl) (fun _ a b => ⟨a, b⟩) (z_ rfl rfl rfl rfl rfl (z_ rfl rfl rfl rfl rfl (z_ rfl rfl rfl rfl rfl (m_ rfl (t_ rfl rfl) rfl (m_ rfl (f_ rfl) rfl (z_ rfl rfl rfl rfl rfl (z_ rfl rfl rfl rfl rfl (z_ rfl rfl rfl rfl rfl (z_ rfl rfl rfl rfl rfl ?_)))))))))
       refine z_ rfl rfl rfl rfl rfl (m_ rfl (t_ rfl rfl) rfl (m_ rfl (f_ rfl) rfl (z_ rfl rfl rfl rfl rfl (z_ rfl rfl rfl rfl rfl (z_ rfl rfl rfl rfl rfl (m_ rfl (t_ rfl rfl) rfl (m_ rfl (e_ rfl) rfl (O_ (T_ (by kernel_rfl) ?_)))))))))
       refine b_ rfl (u_ ?_)
       exact Y_ cl_ () (s_ rfl (by have p1 := eq_false hr1; have p2 := eq_false hr2; have p3 := eq_true hr3; have p6 := eq_false hr6; simp only [wf2, p1, p2, p3, hr4, hr5, p6, if_true, if_false, decide_true, decide_false, Bool.and_true, Bool.and_false, Bool.true_and, Bool.false_and, Bool.or_true, Bool.or_false, Bool.true_or, Bool.false_or, Bool.not_true, Bool.not_false, ne_eq, not_true_eq_false, not_false_eq_true, true_and, and_true, false_and, and_false, true_or, or_true, false_or, or_false, ite_true, ite_false, Bool.false_eq_true])) x_ (fun _ _ _ => trivial)
      ·
       replace hr6 := of_decide_eq_true hr6
       refine P_ 12 [22, 23, 24, 25, 26] (by kernel_rfl) (fun _ a b => ⟨a, b⟩) (r_ rfl rfl rfl (h_ o_ rfl rfl rfl q_) rfl (r_ rfl rfl rfl (n_ 0 B_ rfl rfl rfl) rfl ?_))
       refine az_ rfl rfl rfl (cb_ rfl rfl) rfl fun r7 hr7 => ?_
       refine m_ rfl (v_ rfl rfl) rfl (m_ rfl (f_ rfl) rfl (O_ ?_))
       cases r7
       ·
        replace hr7 := of_decide_eq_false hr7
        refine P_ 0 [27, 28, 29, 30, 31, 32, 33, 34, 35, 36, 37, 38] (by kernel_rfl) (fun _ a b => ⟨a, b⟩) (z_ rfl rfl rfl rfl rfl (z_ rfl rfl rfl rfl rfl (z_ rfl rfl rfl rfl rfl (z_ rfl rfl rfl rfl rfl (z_ rfl rfl rfl rfl rfl (m_ rfl (t_ rfl rfl) rfl (m_ rfl (f_ rfl) rfl (z_ rfl rfl rfl rfl rfl (z_ rfl rfl rfl rfl rfl ?_)))))))))
        refine z_ rfl rfl rfl rfl rfl (m_ rfl (t_ rfl rfl) rfl (m_ rfl (e_ rfl) rfl (O_ (T_ (by kernel_rfl) (b_ rfl (u_ ?_))))))
        exact Y_ cl_ () (s_ rfl (by have p1 := eq_false hr1; have p2 := eq_false hr2; have p3 := eq_true hr3; have p6 := eq_true hr6; have p7 := eq_false hr7; simp only [wf2, p1, p2, p3, hr4, hr5, p6, p7, if_true, if_false, decide_true, decide_false, Bool.and_true, Bool.and_false, Bool.true_and, Bool.false_and, Bool.or_true, Bool.or_false, Bool.true_or, Bool.false_or, Bool.not_true, Bool.not_false, ne_eq, not_true_eq_false, not_false_eq_true, true_and, and_true, false_and, and_false, true_or, or_true, false_or, or_false, ite_true, ite_false, Bool.false_eq_true])) x_ (fun _ _ _ => trivial)
       ·
        replace hr7 := of_decide_eq_true hr7
        refine P_ 5 [27, 28, 29, 30, 31, 32, 33] (by kernel_rfl) (fun _ a b => ⟨a, b⟩) (r_ rfl rfl rfl (h_ o_ rfl rfl rfl q_) rfl (r_ rfl rfl rfl (n_ 0 B_ rfl rfl rfl) rfl (r_ rfl rfl rfl (h_ o_ rfl rfl rfl q_) rfl (r_ rfl rfl rfl (n_ 0 B_ rfl rfl rfl) rfl ?_))))
        refine az_ rfl rfl rfl (cb_ rfl rfl) rfl fun r8 hr8 => ?_
        refine m_ rfl (v_ rfl rfl) rfl (m_ rfl (f_ rfl) rfl (O_ ?_))
        cases r8
        ·
         replace hr8 := of_decide_eq_false hr8
         refine P_ 0 [34, 35, 36, 37, 38] (by kernel_rfl) (fun _ a b => ⟨a, b⟩) (z_ rfl rfl rfl rfl rfl (z_ rfl rfl rfl rfl rfl (z_ rfl rfl rfl rfl rfl (m_ rfl (t_ rfl rfl) rfl (m_ rfl (e_ rfl) rfl (O_ (T_ (by kernel_rfl) (b_ rfl (u_ ?_)))))))))
         exact Y_ cl_ () (s_ rfl (by have p1 := eq_false hr1; have p2 := eq_false hr2; have p3 := eq_true hr3; have p6 := eq_true hr6; have p7 := eq_true hr7; have p8 := eq_false hr8; simp only [wf2, p1, p2, p3, hr4, hr5, p6, p7, p8, if_true, if_false, decide_true, decide_false, Bool.and_true, Bool.and_false, Bool.true_and, Bool.false_and, Bool.or_true, Bool.or_false, Bool.true_or, Bool.false_or, Bool.not_true, Bool.not_false, ne_eq, not_true_eq_false, not_false_eq_true, true_and, and_true, false_and, and_false, true_or, or_true, false_or, or_false, ite_true, ite_false, Bool.false_eq_true])) x_ (fun _ _ _ => trivial)
        ·
         replace hr8 := of_decide_eq_true hr8
         refine P_ 0 [34, 35, 36, 37, 38] (by kernel_rfl) (fun _ a b => ⟨a, b⟩) (r_ rfl rfl rfl (h_ o_ rfl rfl rfl q_) rfl (r_ rfl rfl rfl (n_ 0 B_ rfl rfl rfl) rfl ?_))
         refine az_ rfl rfl rfl (cb_ rfl rfl) rfl fun r9 hr9 => ?_
         refine m_ rfl (v_ rfl rfl) rfl (m_ rfl (e_ rfl) rfl (O_ (T_ (by kernel_rfl) (b_ rfl (u_ ?_)))))
         exact Y_ cl_ () (s_ rfl (by have p1 := eq_false hr1; have p2 := eq_false hr2; have p3 := eq_true hr3; have p6 := eq_true hr6; have p7 := eq_true hr7; have p8 := eq_true hr8; rw [← hr9]; simp only [wf2, p1, p2, p3, hr4, hr5, p6, p7, p8, if_true, if_false, decide_true, decide_false, Bool.and_true, Bool.and_false, Bool.true_and, Bool.false_and, Bool.or_true, Bool.or_false, Bool.true_or, Bool.false_or, Bool.not_true, Bool.not_false, ne_eq, not_true_eq_false, not_false_eq_true, true_and, and_true, false_and, and_false, true_or, or_true, false_or, or_false, ite_true, ite_false, Bool.false_eq_true])) x_ (fun _ _ _ => trivial)
  ·
   replace hr2 := eq_of_beq hr2
   refine w_ rfl (g_ ?_)
   refine aW_ (by kernel_rfl) ?_
   refine P_ 23 [0, 1] (by kernel_rfl) (fun _ a b => ⟨a, b⟩) (m_ rfl (h_ o_ rfl rfl rfl y_) rfl (m_ rfl (n_ 0 H_ rfl rfl rfl) rfl (O_ (L_ 2 rfl (by kernel_rfl) (ah_ (fd_ (Fc.a f) (by omega)) rfl x_ (fun _ _ _ => by exact trivial) rfl fun r10 hr10 => ?_)))))
   refine d_ (p_ rfl (D_ (fun _ a b => ⟨a, b⟩) (P_ 21 [3] (by kernel_rfl) (fun _ a b => ⟨a, b⟩) (m_ rfl (f_ rfl) rfl (O_ ?_)))))
   cases r10
   ·
    refine P_ 0 [4, 5, 6, 7, 8, 9, 10, 11, 12, 13, 14, 15, 16, 17, 18, 19, 20, 21, 22, 23, 24] (by kernel_rfl) (fun _ a b => ⟨a, b⟩) (z_ rfl rfl rfl rfl rfl (z_ rfl rfl rfl rfl rfl (z_ rfl rfl rfl rfl rfl (m_ rfl (t_ rfl rfl) rfl (m_ rfl (f_ rfl) rfl (z_ rfl rfl rfl rfl rfl (z_ rfl rfl rfl rfl rfl (z_ rfl rfl rfl rfl rfl (m_ rfl (t_ rfl rfl) rfl ?_)))))))))
    refine m_ rfl (f_ rfl) rfl (z_ rfl rfl rfl rfl rfl (z_ rfl rfl rfl rfl rfl (z_ rfl rfl rfl rfl rfl (z_ rfl rfl rfl rfl rfl (z_ rfl rfl rfl rfl rfl (z_ rfl rfl rfl rfl rfl (z_ rfl rfl rfl rfl rfl (z_ rfl rfl rfl rfl rfl (z_ rfl rfl rfl rfl rfl ?_)))))))))
    refine m_ rfl (t_ rfl rfl) rfl (m_ rfl (e_ rfl) rfl (O_ (T_ (by kernel_rfl) (b_ rfl (u_ ?_)))))
    exact Y_ cl_ () (s_ rfl (by have p1 := eq_false hr1; have p2 := eq_true hr2; simp only [wf2, p1, p2, hr10, if_true, if_false, decide_true, decide_false, Bool.and_true, Bool.and_false, Bool.true_and, Bool.false_and, Bool.or_true, Bool.or_false, Bool.true_or, Bool.false_or, Bool.not_true, Bool.not_false, ne_eq, not_true_eq_false, not_false_eq_true, true_and, and_true, false_and, and_false, true_or, or_true, false_or, or_false, ite_true, ite_false, Bool.false_eq_true])) x_ (fun _ _ _ => trivial)
   ·
    refine P_ 19 [4, 5] (by kernel_rfl) (fun _ a b => ⟨a, b⟩) (r_ rfl rfl rfl (h_ o_ rfl rfl rfl y_) rfl (r_ rfl rfl rfl (n_ 0 H_ rfl rfl rfl) rfl (O_ (L_ 6 rfl (by kernel_rfl) (i_ rfl rfl (ah_ (fd_ (Fc.b f) (by omega)) rfl x_ (fun _ _ _ => by exact trivial) rfl fun r11 hr11 => ?_))))))
    refine d_ (p_ rfl (D_ (fun _ a b => ⟨a, b⟩) (P_ 16 [7, 8] (by kernel_rfl) (fun _ a b => ⟨a, b⟩) (m_ rfl (v_ rfl rfl) rfl (m_ rfl (f_ rfl) rfl (O_ ?_))))))
    cases r11
    ·
     refine P_ 0 [9, 10, 11, 12, 13, 14, 15, 16, 17, 18, 19, 20, 21, 22, 23, 24] (by kernel_rfl) (fun _ a b => ⟨a, b⟩) (z_ rfl rfl rfl rfl rfl (z_ rfl rfl rfl rfl rfl (z_ rfl rfl rfl rfl rfl (m_ rfl (t_ rfl rfl) rfl (m_ rfl (f_ rfl) rfl (z_ rfl rfl rfl rfl rfl (z_ rfl rfl rfl rfl rfl (z_ rfl rfl rfl rfl rfl (z_ rfl rfl rfl rfl rfl ?_)))))))))
     refine z_ rfl rfl rfl rfl rfl (z_ rfl rfl rfl rfl rfl (z_ rfl rfl rfl rfl rfl (z_ rfl rfl rfl rfl rfl (z_ rfl rfl rfl rfl rfl (m_ rfl (t_ rfl rfl) rfl (m_ rfl (e_ rfl) rfl (O_ (T_ (by kernel_rfl) (b_ rfl ?_)))))))))
     refine u_ ?_
     exact Y_ cl_ () (s_ rfl (by have p1 := eq_false hr1; have p2 := eq_true hr2; simp only [wf2, p1, p2, hr10, hr11, if_true, if_false, decide_true, decide_false, Bool.and_true, Bool.and_false, Bool.true_and, Bool.false_and, Bool.or_true, Bool.or_false, Bool.true_or, Bool.false_or, Bool.not_true, Bool.not_false, ne_eq, not_true_eq_false, not_false_eq_true, true_and, and_true, false_and, and_false, true_or, or_true, false_or, or_false, ite_true, ite_false, Bool.false_eq_true])) x_ (fun _ _ _ => trivial)
    ·
     refine P_ 14 [9, 10] (by kernel_rfl) (fun _ a b => ⟨a, b⟩) (r_ rfl rfl rfl (h_ o_ rfl rfl rfl y_) rfl (r_ rfl rfl rfl (n_ 0 H_ rfl rfl rfl) rfl (O_ (L_ 11 rfl (by kernel_rfl) (i_ rfl rfl (ah_ (nk_ (Fc.r f) (by omega)) rfl x_ (fun _ _ _ => by exact trivial) rfl fun r12 hr12 => ?_))))))
     refine d_ (p_ rfl (D_ (fun _ a b => ⟨a, b⟩) (P_ 11 [12, 13] (by kernel_rfl) (fun _ a b => ⟨a, b⟩) (m_ rfl (v_ rfl rfl) rfl (m_ rfl (f_ rfl) rfl (O_ ?_))))))
     cases r12
     ·
      refine P_ 0 [14, 15, 16, 17, 18, 19, 20, 21, 22, 23, 24] (by kernel_rfl) (fun _ a b => ⟨a, b⟩) (z_ rfl rfl rfl rfl rfl (z_ rfl rfl rfl rfl rfl (z_ rfl rfl rfl rfl rfl (z_ rfl rfl rfl rfl rfl (z_ rfl rfl rfl rfl rfl (z_ rfl rfl rfl rfl rfl (z_ rfl rfl rfl rfl rfl (z_ rfl rfl rfl rfl rfl (z_ rfl rfl rfl rfl rfl ?_)))))))))
      refine m_ rfl (t_ rfl rfl) rfl (m_ rfl (e_ rfl) rfl (O_ (T_ (by kernel_rfl) (b_ rfl (u_ ?_)))))
      exact Y_ cl_ () (s_ rfl (by have p1 := eq_false hr1; have p2 := eq_true hr2; simp only [wf2, p1, p2, hr10, hr11, hr12, if_true, if_false, decide_true, decide_false, Bool.and_true, Bool.and_false, Bool.true_and, Bool.false_and, Bool.or_true, Bool.or_false, Bool.true_or, Bool.false_or, Bool.not_true, Bool.not_false, ne_eq, not_true_eq_false, not_false_eq_true, true_and, and_true, false_and, and_false, true_or, or_true, false_or, or_false, ite_true, ite_false, Bool.false_eq_true])) x_ (fun _ _ _ => trivial)
     ·
      refine P_ 4 [14, 15, 16, 17, 18, 19, 20] (by kernel_rfl) (fun _ a b => ⟨a, b⟩) (r_ rfl rfl rfl (M_ 0 U_ l_ rfl rfl rfl) rfl (r_ rfl rfl rfl (h_ o_ rfl rfl rfl y_) rfl (r_ rfl rfl rfl (n_ 0 H_ rfl rfl rfl) rfl (r_ rfl rfl rfl (h_ o_ rfl rfl rfl y_) rfl (r_ rfl rfl rfl (n_ 0 H_ rfl rfl rfl) rfl (r_ rfl rfl rfl (h_ o_ rfl rfl rfl y_) rfl (r_ rfl rfl rfl (n_ 0 H_ rfl rfl rfl) rfl (O_ (L_ 21 rfl (by kernel_rfl) ?_)))))))))
      refine i_ rfl rfl (K_ (ea_ (Fc.a f) (Fc.r f) (Fc.b f)) rfl x_ (fun _ _ _ => by exact trivial) rfl fun _ => ?_)
      refine d_ (p_ rfl (D_ (fun _ a b => ⟨a, b⟩) (P_ 0 [22, 23, 24] (by kernel_rfl) (fun _ a b => ⟨a, b⟩) ?_)))
      refine az_ rfl rfl rfl (av_ (p := f) (q := (bI_ (Fc.a f) (Fc.r f) (Fc.b f))) rfl rfl) rfl fun r13 hr13 => ?_
      refine m_ rfl (v_ rfl rfl) rfl (m_ rfl (e_ rfl) rfl (O_ (T_ (by kernel_rfl) (b_ rfl (u_ ?_)))))
      exact Y_ cl_ () (s_ rfl (by have p1 := eq_false hr1; have p2 := eq_true hr2; rw [← hr13]; simp only [wf2, p1, p2, hr10, hr11, hr12, if_true, if_false, decide_true, decide_false, Bool.and_true, Bool.and_false, Bool.true_and, Bool.false_and, Bool.or_true, Bool.or_false, Bool.true_or, Bool.false_or, Bool.not_true, Bool.not_false, ne_eq, not_true_eq_false, not_false_eq_true, true_and, and_true, false_and, and_false, true_or, or_true, false_or, or_false, ite_true, ite_false, Bool.false_eq_true])) x_ (fun _ _ _ => trivial)
 ·
  replace hr1 := eq_of_beq hr1
  refine w_ rfl (g_ ?_)
  refine aW_ (by kernel_rfl) ?_
  refine P_ 16 [0, 1] (by kernel_rfl) (fun _ a b => ⟨a, b⟩) (m_ rfl (h_ o_ rfl rfl rfl y_) rfl (m_ rfl (n_ 0 H_ rfl rfl rfl) rfl (O_ (L_ 2 rfl (by kernel_rfl) (ah_ (fd_ (Fc.a f) (by omega)) rfl x_ (fun _ _ _ => by exact trivial) rfl fun r14 hr14 => ?_)))))
  refine d_ (p_ rfl (D_ (fun _ a b => ⟨a, b⟩) (P_ 14 [3] (by kernel_rfl) (fun _ a b => ⟨a, b⟩) (m_ rfl (f_ rfl) rfl (O_ ?_)))))
  cases r14
  ·
   refine P_ 0 [4, 5, 6, 7, 8, 9, 10, 11, 12, 13, 14, 15, 16, 17] (by kernel_rfl) (fun _ a b => ⟨a, b⟩) (z_ rfl rfl rfl rfl rfl (z_ rfl rfl rfl rfl rfl (z_ rfl rfl rfl rfl rfl (m_ rfl (t_ rfl rfl) rfl (m_ rfl (f_ rfl) rfl (z_ rfl rfl rfl rfl rfl (z_ rfl rfl rfl rfl rfl (z_ rfl rfl rfl rfl rfl (z_ rfl rfl rfl rfl rfl ?_)))))))))
   refine z_ rfl rfl rfl rfl rfl (z_ rfl rfl rfl rfl rfl (z_ rfl rfl rfl rfl rfl (m_ rfl (t_ rfl rfl) rfl (m_ rfl (e_ rfl) rfl (O_ (T_ (by kernel_rfl) (b_ rfl (u_ ?_))))))))
   exact Y_ cl_ () (s_ rfl (by have p1 := eq_true hr1; simp only [wf2, p1, hr14, if_true, if_false, decide_true, decide_false, Bool.and_true, Bool.and_false, Bool.true_and, Bool.false_and, Bool.or_true, Bool.or_false, Bool.true_or, Bool.false_or, Bool.not_true, Bool.not_false, ne_eq, not_true_eq_false, not_false_eq_true, true_and, and_true, false_and, and_false, true_or, or_true, false_or, or_false, ite_true, ite_false, Bool.false_eq_true])) x_ (fun _ _ _ => trivial)
  ·
   refine P_ 12 [4, 5] (by kernel_rfl) (fun _ a b => ⟨a, b⟩) (r_ rfl rfl rfl (h_ o_ rfl rfl rfl y_) rfl (r_ rfl rfl rfl (n_ 0 H_ rfl rfl rfl) rfl (O_ (L_ 6 rfl (by kernel_rfl) (i_ rfl rfl (ah_ (fd_ (Fc.b f) (by omega)) rfl x_ (fun _ _ _ => by exact trivial) rfl fun r15 hr15 => ?_))))))
   refine d_ (p_ rfl (D_ (fun _ a b => ⟨a, b⟩) (P_ 9 [7, 8] (by kernel_rfl) (fun _ a b => ⟨a, b⟩) (m_ rfl (v_ rfl rfl) rfl (m_ rfl (f_ rfl) rfl (O_ ?_))))))
   cases r15
   ·
    refine P_ 0 [9, 10, 11, 12, 13, 14, 15, 16, 17] (by kernel_rfl) (fun _ a b => ⟨a, b⟩) (z_ rfl rfl rfl rfl rfl (z_ rfl rfl rfl rfl rfl (z_ rfl rfl rfl rfl rfl (z_ rfl rfl rfl rfl rfl (z_ rfl rfl rfl rfl rfl (z_ rfl rfl rfl rfl rfl (z_ rfl rfl rfl rfl rfl (m_ rfl (t_ rfl rfl) rfl (m_ rfl (e_ rfl) rfl ?_)))))))))
    refine O_ (T_ (by kernel_rfl) (b_ rfl (u_ ?_)))
    exact Y_ cl_ () (s_ rfl (by have p1 := eq_true hr1; simp only [wf2, p1, hr14, hr15, if_true, if_false, decide_true, decide_false, Bool.and_true, Bool.and_false, Bool.true_and, Bool.false_and, Bool.or_true, Bool.or_false, Bool.true_or, Bool.false_or, Bool.not_true, Bool.not_false, ne_eq, not_true_eq_false, not_false_eq_true, true_and, and_true, false_and, and_false, true_or, or_true, false_or, or_false, ite_true, ite_false, Bool.false_eq_true])) x_ (fun _ _ _ => trivial)
   ·
    refine P_ 4 [9, 10, 11, 12, 13] (by kernel_rfl) (fun _ a b => ⟨a, b⟩) (r_ rfl rfl rfl (M_ 0 U_ l_ rfl rfl rfl) rfl (r_ rfl rfl rfl (h_ o_ rfl rfl rfl y_) rfl (r_ rfl rfl rfl (n_ 0 H_ rfl rfl rfl) rfl (r_ rfl rfl rfl (h_ o_ rfl rfl rfl y_) rfl (r_ rfl rfl rfl (n_ 0 H_ rfl rfl rfl) rfl (O_ (L_ 14 rfl (by kernel_rfl) (i_ rfl rfl (K_ (bO_ (Fc.a f) (Fc.b f)) rfl x_ (fun _ _ _ => by exact trivial) rfl fun _ => ?_)))))))))
    refine d_ (p_ rfl (D_ (fun _ a b => ⟨a, b⟩) (P_ 0 [15, 16, 17] (by kernel_rfl) (fun _ a b => ⟨a, b⟩) ?_)))
    refine az_ rfl rfl rfl (av_ (p := f) (q := (aL_ (Fc.a f) (Fc.b f))) rfl rfl) rfl fun r16 hr16 => ?_
    refine m_ rfl (v_ rfl rfl) rfl (m_ rfl (e_ rfl) rfl (O_ (T_ (by kernel_rfl) (b_ rfl (u_ ?_)))))
    exact Y_ cl_ () (s_ rfl (by have p1 := eq_true hr1; rw [← hr16]; simp only [wf2, p1, hr14, hr15, if_true, if_false, decide_true, decide_false, Bool.and_true, Bool.and_false, Bool.true_and, Bool.false_and, Bool.or_true, Bool.or_false, Bool.true_or, Bool.false_or, Bool.not_true, Bool.not_false, ne_eq, not_true_eq_false, not_false_eq_true, true_and, and_true, false_and, and_false, true_or, or_true, false_or, or_false, ite_true, ite_false, Bool.false_eq_true])) x_ (fun _ _ _ => trivial)
theorem ns_ {P : Program} {N : Nf} {fr : Fr} {H : Hp} {Γ : List Fct} {ty t : TypeId} {x : Operand} {u : Value} {fs : Array Field} (hu : ∀ w, (underlying t).run P w = .ok (.struct fs) w) (hx : Fr.ev fr x = some u) : Yld P N fr H Γ (.makeInterface t x) ty (.iface t u) :=
  fun a v h1 _ _ _ _ _ => by simp [execOp, h1.ev hx, Instr.makeInterface, hu]
theorem oW_ : gH_ Tryz.prog 156 [] [] := ⟨_, Tryz.zeroValue156, Tryz.runUnderlying156, fun w => by simp []⟩
theorem need_t : TriX Tryz.prog 43 #[.bool true] [] [] (fun _ : {u : Unit // true = true} => .tuple #[]) (fun _ => []) (fun _ => []) (true = false) := by
  refine bq_ Tryz.func43 rfl rfl Tryz.ntmps43 rfl fun v0 => ?_
  refine g_ (c_ (a_ (f_ rfl) rfl (a_ (bu_ rfl) rfl (d_ (b_ rfl (A_ rfl (J_ (gC_ rfl ?_))))))))
  refine endX ?_
  exact pP_ Tryz.results43 ⟨(), rfl⟩ rfl x_ (fun _ _ _ => trivial)
theorem need_f : TriX Tryz.prog 43 #[.bool false] [] [] (fun _ : {u : Unit // false = true} => .tuple #[]) (fun _ => []) (fun _ => []) (false = false) := by
  refine bq_ Tryz.func43 rfl rfl Tryz.ntmps43 rfl fun v0 => ?_
  refine g_ (c_ (a_ (f_ rfl) rfl (a_ (bu_ rfl) rfl (d_ (b_ rfl (w_ rfl (c_ (a_ (ax_ oW_ rfl rfl) rfl (a_ (ns_ Tryz.runUnderlying156 rfl) rfl ?_)))))))))
  exact mQ_ rfl (cA_ rfl)
theorem dl_ (ok : Bool) : TriX Tryz.prog 43 #[.bool ok] [] [] (fun _ : {u : Unit // ok = true} => .tuple #[]) (fun _ => []) (fun _ => []) (ok = false) := by
  cases ok
  · exact need_f
  · exact need_t
end Go.Proofs.YtaffcjgphlhppaaGreatDoor
namespace Go.Vs
open Go Go.Sx
def Ky.cells (k : Ky) : List Value := [.int .i64 k.kind, str k.role, str k.atom]
theorem Ky.cells_len (k : Ky) : k.cells.length = 3 := rfl
def Ky.val (k : Ky) : Value := .agg k.cells.toArray
def Ky.eqb (p q : Ky) : Bool := (p.kind == q.kind) && ((p.role == q.role) && ((p.atom == q.atom) && true))
theorem Ky.eqb_eq (p q : Ky) : p.eqb q = decide (p = q) := by
  rw [Bool.eq_iff_iff]; cases p; cases q; simp [Ky.eqb]
theorem Fc.cells_one (p : Fc) : p.cells.all Value.oneCell' = true := rfl
end Go.Vs
namespace Go.Sx
open Go Go.Vs
structure Emt (P : Program) (tF : TypeId) where
  stp : Fc → List Fc → List Fc
  kof : List Fc → List Fc
  St : List Fc → List Fc → Hp → Prop
  fn : FuncId
  caps : List Value
  ef : Fct
  kb : Nat
  fb : Nat
  grows : Grows stp kof
  emit : ∀ f nw fm H, St nw fm H → Tri P fn (f.val :: caps).toArray H [ef] (fun _ : {H' : Hp // St (stp f nw) fm H'} => .tuple #[]) (fun y => y.1) (fun _ => [])
  known : ∀ {nw fm H}, St nw fm H → ∃ es c, (kb, Obj.map es c) ∈ H ∧ SetE Fc.val es (kof nw)
  firm : ∀ {nw fm H}, St nw fm H → ∃ es c q, (fb, Obj.map es c) ∈ H ∧ SetE Fc.val es q ∧ ∀ f, f ∈ q ↔ f ∈ fm
  setf : ∀ {nw fm H} (f : Fc), St nw fm H → ∃ es c q Hr, H.Perm ((fb, Obj.map es c) :: Hr) ∧ SetE Fc.val es q ∧ (∀ f, f ∈ q ↔ f ∈ fm) ∧ ∀ es' c', SetE Fc.val es' (if f ∈ q then q else q ++ [f]) → ∃ H', St nw (f :: fm) H' ∧ H'.Perm ((fb, Obj.map es' c') :: Hr)
section
variable {P : Program} {N : Nf} {v0 : Vw} {H0 : Hp} {R : Exit → Act → World → Prop} {K : List Kt} {fr : Fr} {H : Hp} {Γ : List Fct}
variable {ops : Array Oper} {l : List Oper} {d : Nat} {ty : TypeId} {ps : String} {af : Array Edge} {tF : TypeId} {E : Emt P tF} {nw fm : List Fc} {Hs F : Hp}
end
structure EngB where
  g : Nat
  pb : Nat
  ab : Nat
  ub : Nat
  ob : Nat
  ib : Nat
  rb : Nat
  sb : Nat
  lad : Option Addr
  lcap : Nat
  lps : List Str
def EngB.cells (B : EngB) {P : Program} {tF : TypeId} (E : Emt P tF) : List Value :=
  [.map (some B.pb), .slice B.lad B.lps.length B.lcap, .map (some E.kb), .func (.func E.fn) #[] E.caps.toArray, .map (some B.ab), .map (some B.ub), .map (some B.ob), .map (some B.ib), .map (some B.rb), .map (some B.sb), .map (some E.fb)]
end Go.Sx
namespace Go.Proofs.YtaffcjgphlhppaaGreatDoor
open Go Go.Sx Go.Proofs
attribute [local irreducible] Code.wp wpList wpAnyH
open Go.Vs
theorem lK_ : Elt Tryz.prog 47 24 6 72 := lc_ Tryz.underlying47 (z := .agg #[.int .i64 0, str [], str [], str [], .int .i64 0, .int .i64 0]) (by kernel_rfl) rfl (by decide)
theorem gz_ (s : Int) : (dg_ s).all Value.oneCell' = true := rfl
end Go.Proofs.YtaffcjgphlhppaaGreatDoor
namespace Go.Proofs.YtaffcjgphlhppaaGreatDoor
open Go Go.Sx Go.Proofs
attribute [local irreducible] Code.wp wpList wpAnyH
open Go.Vs
def ivC (i : Int × Int) : List Value := [.int .i64 i.1, .int .i64 i.2]
theorem jN_ (i : Int × Int) : (ivC i).length = 2 := rfl
def ivV (i : Int × Int) : Value := .agg (ivC i).toArray
def eb_ (i : Int × Int) : Int := if min i.1 i.2 < -1099511627776 ∨ 1099511627776 < max i.1 i.2 then 1 else if i.2 < i.1 then 80 else 0
def gg_ (e : Int) (i : Int × Int) : Int := if e ≠ 0 then e else eb_ i
def eg_ (l : List (Int × Int)) : Int := l.foldl gg_ 0
theorem kP_ {l : List (Int × Int)} {i : Nat} {x : Int × Int} (h : l[i]? = some x) : eg_ (List.take (i + 1) l) = gg_ (eg_ (List.take i l)) x := by
  unfold eg_; rw [List.take_add_one, h, Option.toList_some, List.foldl_append]; rfl
def mW_ (a b : Int × Int) : Bool := decide (eg_ [a, b] = 0) && (decide (b.1 ≤ a.1) && decide (a.2 ≤ b.2))
theorem pB_ {a b : Int × Int} (ha : -1099511627776 ≤ a.1 ∧ a.1 ≤ a.2 ∧ a.2 ≤ 1099511627776) (hb : -1099511627776 ≤ b.1 ∧ b.1 ≤ b.2 ∧ b.2 ≤ 1099511627776) : mW_ a b = decide (b.1 ≤ a.1 ∧ a.2 ≤ b.2) := by
  have e : ∀ i : Int × Int, -1099511627776 ≤ i.1 ∧ i.1 ≤ i.2 ∧ i.2 ≤ 1099511627776 → eb_ i = 0 := fun i h => by
    unfold eb_; rw [if_neg (by omega), if_neg (by omega)]
  have e2 : eg_ [a, b] = 0 := by simp [eg_, gg_, e a ha, e b hb]
  unfold mW_; rw [e2, Bool.eq_iff_iff]; simp
theorem fi_ : gH_ Tryz.prog 196 [(0, 1), (1, 1)] [.int .i64 0, .int .i64 0] := ⟨_, at_, I_, fun w => by simp [q_]⟩
theorem mY_ (i : Int × Int) : Fn0 Tryz.prog 223 #[ivV i] (.int .i64 (eb_ i)) := by
  refine S_ Tryz.func223 rfl rfl Tryz.ntmps223 rfl fun v0 => ?_
  refine g_ (c_ (aM_ rfl rfl fun b1 => ?_))
  refine a_ (e_ rfl) rfl (d_ (b_ rfl (g_ (g_ (c_ (a_ (h_ I_ rfl rfl rfl q_) rfl (a_ (n_ 0 B_ rfl rfl rfl) rfl (a_ (h_ I_ rfl rfl rfl q_) rfl (a_ (n_ 0 B_ rfl rfl rfl) rfl ?_)))))))))
  refine a_ (nt_ rfl rfl) rfl (E_ (au_ rfl rfl) rfl fun r1 hr1 => ?_)
  refine a_ (f_ rfl) rfl ?_
  cases r1
  · skip
    replace hr1 := of_decide_eq_false hr1
    refine i_ rfl rfl (a_ (h_ I_ rfl rfl rfl q_) rfl (i_ rfl rfl (a_ (n_ 0 B_ rfl rfl rfl) rfl (i_ rfl rfl (a_ (h_ I_ rfl rfl rfl q_) rfl (i_ rfl rfl (a_ (n_ 0 B_ rfl rfl rfl) rfl (i_ rfl rfl (a_ (nu_ rfl rfl) rfl ?_)))))))))
    refine i_ rfl rfl (E_ (bp_ rfl rfl) rfl fun r2 hr2 => ?_)
    refine a_ (t_ rfl rfl) rfl (d_ (b_ rfl ?_))
    cases r2
    · skip
      replace hr2 := of_decide_eq_false hr2
      refine A_ rfl (J_ (b_ rfl (g_ (g_ (c_ (a_ (h_ I_ rfl rfl rfl q_) rfl (a_ (n_ 0 B_ rfl rfl rfl) rfl (a_ (h_ I_ rfl rfl rfl q_) rfl (a_ (n_ 0 B_ rfl rfl rfl) rfl ?_)))))))))
      refine E_ (bp_ rfl rfl) rfl fun r3 hr3 => ?_
      refine d_ (b_ rfl ?_)
      cases r3
      · skip
        replace hr3 := of_decide_eq_false hr3
        refine A_ rfl (J_ (b_ rfl (g_ (c_ (a_ (e_ rfl) rfl (d_ (b_ rfl (u_ ?_))))))))
        exact Y_ Tryz.results223 () (aH_ rfl (by unfold eb_; first | (rw [if_pos (by omega)]) | (rw [if_neg (by omega), if_pos (by omega)]) | (rw [if_neg (by omega), if_neg (by omega)]))) x_ (fun _ _ _ => trivial)
      · skip
        replace hr3 := of_decide_eq_true hr3
        refine w_ rfl (g_ (c_ (a_ (e_ rfl) rfl (d_ (b_ rfl (u_ ?_))))))
        exact Y_ Tryz.results223 () (aH_ rfl (by unfold eb_; first | (rw [if_pos (by omega)]) | (rw [if_neg (by omega), if_pos (by omega)]) | (rw [if_neg (by omega), if_neg (by omega)]))) x_ (fun _ _ _ => trivial)
    · skip
      replace hr2 := of_decide_eq_true hr2
      refine w_ rfl (g_ (c_ (a_ (e_ rfl) rfl (d_ (b_ rfl (u_ ?_))))))
      exact Y_ Tryz.results223 () (aH_ rfl (by unfold eb_; first | (rw [if_pos (by omega)]) | (rw [if_neg (by omega), if_pos (by omega)]) | (rw [if_neg (by omega), if_neg (by omega)]))) x_ (fun _ _ _ => trivial)
  · skip
    replace hr1 := of_decide_eq_true hr1
    refine k_ rfl rfl rfl rfl (k_ rfl rfl rfl rfl (k_ rfl rfl rfl rfl (k_ rfl rfl rfl rfl (k_ rfl rfl rfl rfl (k_ rfl rfl rfl rfl (a_ (v_ rfl rfl) rfl (d_ (b_ rfl (w_ rfl ?_)))))))))
    refine g_ (c_ (a_ (e_ rfl) rfl (d_ (b_ rfl (u_ ?_)))))
    exact Y_ Tryz.results223 () (aH_ rfl (by unfold eb_; first | (rw [if_pos (by omega)]) | (rw [if_neg (by omega), if_pos (by omega)]) | (rw [if_neg (by omega), if_neg (by omega)]))) x_ (fun _ _ _ => trivial)
theorem py_ (e : Int) (i : Int × Int) : Fn0 Tryz.prog 222 #[.int .i64 e, ivV i] (.int .i64 (gg_ e i)) := by
  refine S_ Tryz.func222 rfl rfl Tryz.ntmps222 rfl fun v0 => ?_
  refine g_ (c_ (aM_ rfl rfl fun b1 => ?_))
  refine a_ (e_ rfl) rfl (d_ (b_ rfl (g_ (g_ (c_ (a_ (f_ rfl) rfl (E_ (bF_ rfl rfl) rfl fun r1 hr1 => ?_)))))))
  refine d_ (b_ rfl ?_)
  cases r1
  · skip
    replace hr1 := bw_ hr1
    refine A_ rfl (J_ (b_ rfl (g_ (c_ (a_ (M_ 0 co_ ad_ rfl rfl rfl) rfl (K_ (mY_ i) rfl x_ (fun _ _ _ => by exact trivial) rfl fun _ => ?_))))))
    refine a_ (e_ rfl) rfl (d_ (b_ rfl (u_ ?_)))
    exact Y_ Tryz.results222 () (aH_ rfl (by unfold gg_; first | (rw [if_pos (by assumption)]) | (rw [if_neg (by omega)]))) x_ (fun _ _ _ => trivial)
  · skip
    replace hr1 := bv_ hr1
    refine w_ rfl (g_ (c_ (a_ (f_ rfl) rfl (a_ (e_ rfl) rfl (d_ (b_ rfl (u_ ?_)))))))
    exact Y_ Tryz.results222 () (aH_ rfl (by unfold gg_; first | (rw [if_pos (by assumption)]) | (rw [if_neg (by omega)]))) x_ (fun _ _ _ => trivial)
theorem lG_ (l : List (Int × Int)) (ad : Option Addr) (cap : Nat) (hl : l.length ≤ 1000000) : Tri Tryz.prog 221 #[.slice ad (List.length l) cap, .int .i64 0, .func (.func 222) #[] #[]] [] [aY_ ad (List.flatMap ivC l)] (fun _ : Unit => .int .i64 (eg_ l)) (fun _ => []) (fun _ => []) := by
  refine S_ Tryz.func221 rfl rfl Tryz.ntmps221 rfl fun v0 => ?_
  refine g_ (c_ (a_ (e_ rfl) rfl (d_ (b_ rfl (g_ (g_ (c_ (a_ (f_ rfl) rfl (a_ (aA_ mJ_ rfl) rfl ?_)))))))))
  refine a_ (f_ rfl) rfl (d_ (b_ rfl (ae_ ?_)))
  refine bt_ (ι := {y : Nat // y ≤ l.length}) (fun y => [(1, .int .i64 (eg_ (List.take y.1 l))), (2, .func (.func 222) #[] #[]), (9, .slice ad (List.length l) cap), (10, .int .i64 (List.length l : Int)), (11, .int .i64 (y.1 : Int))]) (fun y => ([])) (fun y => [aY_ ad (List.flatMap ivC l)]) (fun y => l.length - y.1) ⟨(0 : Nat), by simp⟩ ⟨rfl, rfl, rfl, rfl, rfl, trivial⟩ x_ (fun _ _ h => h) ?_
  rintro ⟨i, hi⟩
  dsimp only at hi ⊢
  refine g_ (c_ (E_ (au_ rfl rfl) rfl fun r1 hr1 => ?_))
  refine d_ (b_ rfl (g_ ?_))
  cases r1
  · skip
    replace hr1 := of_decide_eq_false hr1
    refine A_ rfl (bj_ rfl (b_ rfl (g_ (c_ (a_ (f_ rfl) rfl (a_ (e_ rfl) rfl (d_ (b_ rfl (u_ ?_)))))))))
    exact Y_ Tryz.results221 () (aH_ rfl (by rw [List.take_of_length_le (by omega)])) x_ (fun _ _ _ => trivial)
  · skip
    replace hr1 := of_decide_eq_true hr1
    have hlx1 : i < List.length l := by omega
    obtain ⟨x1, hx1⟩ : ∃ e0, l[i]? = some e0 := ⟨_, List.getElem?_eq_getElem hlx1⟩
    have hmx1 : x1 ∈ l := List.mem_of_getElem? hx1
    refine w_ rfl (J_ (b_ rfl (g_ (ae_ (g_ (c_ (a_ (an_ mJ_ ad_ rfl rfl (fun v _ h => ba_ (n := 2) jN_ (by decide) (by exact h.1) hx1) (by omega) (by first | omega | (simp; done))) rfl (a_ (aX_ (ad := ad) (us := ivC x1) co_ ad_ rfl (fun v _ h => by exact h.1) (jN_ _) (ar_ jN_ hx1)) rfl (Z_ at_ rfl fun b1 => ?_)))))))))
    refine Q_ 0 ad_ rfl rfl rfl rfl rfl rfl (d_ (b_ rfl (c_ (a_ (f_ rfl) rfl (a_ (f_ rfl) rfl (a_ (M_ 0 co_ ad_ rfl rfl rfl) rfl (iX_ (py_ (eg_ (List.take i l)) x1) rfl rfl x_ (fun _ _ _ => by exact trivial) rfl fun _ => ?_)))))))
    refine a_ (e_ rfl) rfl (d_ (b_ rfl (c_ (a_ (ag_ rfl rfl rfl (aS_ (by omega) (by omega))) rfl (a_ (f_ rfl) rfl (d_ (p_ rfl ?_)))))))
    exact aU_ ⟨i + 1, hlx1⟩ (by dsimp only; omega) ⟨(aH_ rfl (kP_ hx1).symm), rfl, rfl, rfl, rfl, trivial⟩ x_ (fun _ _ h => h)
theorem mn_ (l : List (Int × Int)) (ad : Option Addr) (cap : Nat) (hl : l.length ≤ 1000000) : Tri Tryz.prog 196 #[.slice ad (List.length l) cap] [] [aY_ ad (List.flatMap ivC l)] (fun _ : Unit => .int .i64 (eg_ l)) (fun _ => []) (fun _ => []) := by
  refine S_ Tryz.func196 rfl rfl Tryz.ntmps196 rfl fun v0 => ?_
  refine g_ (c_ (a_ (e_ rfl) rfl (d_ (b_ rfl (g_ (c_ (a_ (f_ rfl) rfl (K_ (lG_ l ad cap hl) rfl x_ (fun v _ h => by exact ⟨h.1, trivial⟩) rfl fun _ => ?_))))))))
  refine a_ (e_ rfl) rfl (d_ (b_ rfl (u_ ?_)))
  exact Y_ Tryz.results196 () rfl x_ (fun _ _ _ => trivial)
theorem ny_ (i j : Int × Int) : Fn0 Tryz.prog 162 #[ivV i, ivV j] (.bool (mW_ i j)) := by
  refine S_ Tryz.func162 rfl rfl Tryz.ntmps162 rfl fun v0 => ?_
  refine g_ (c_ (aM_ rfl rfl fun b1 => ?_))
  refine aM_ rfl rfl fun b2 => ?_
  refine a_ (e_ rfl) rfl (d_ (b_ rfl (g_ (c_ (a_ (M_ 1 co_ ad_ rfl rfl rfl) rfl (a_ (M_ 0 co_ ad_ rfl rfl rfl) rfl (be_ mJ_ ad_ at_ rfl rfl rfl rfl rfl rfl fun b3 => ?_)))))))
  refine bU_ (List.flatMap ivC [i, j]) C_ rfl ?_
  refine K_ (mn_ [i, j] (some ⟨b3, 0, none⟩) 2 (by simp)) rfl x_ (fun v _ h => by exact ⟨h.1, trivial⟩) rfl fun _ => ?_
  refine E_ (aG_ rfl rfl) rfl fun r1 hr1 => ?_
  refine a_ (f_ rfl) rfl ?_
  cases r1
  · skip
    replace hr1 := ne_of_beq_false hr1
    refine k_ rfl rfl rfl rfl (k_ rfl rfl rfl rfl (k_ rfl rfl rfl rfl (k_ rfl rfl rfl rfl (k_ rfl rfl rfl rfl (a_ (t_ rfl rfl) rfl (a_ (f_ rfl) rfl (k_ rfl rfl rfl rfl (k_ rfl rfl rfl rfl (k_ rfl rfl rfl rfl ?_)))))))))
    refine k_ rfl rfl rfl rfl (k_ rfl rfl rfl rfl (a_ (t_ rfl rfl) rfl (a_ (e_ rfl) rfl (d_ (b_ rfl (u_ ?_))))))
    exact Y_ Tryz.results162 () (s_ rfl (by unfold mW_; simp_all <;> omega)) x_ (fun _ _ _ => trivial)
  · skip
    replace hr1 := eq_of_beq hr1
    refine i_ rfl rfl (a_ (h_ I_ rfl rfl rfl q_) rfl (i_ rfl rfl (a_ (n_ 0 B_ rfl rfl rfl) rfl (i_ rfl rfl (a_ (h_ I_ rfl rfl rfl q_) rfl (i_ rfl rfl (a_ (n_ 1 B_ rfl rfl rfl) rfl (i_ rfl rfl (E_ (cb_ rfl rfl) rfl fun r2 hr2 => ?_)))))))))
    refine a_ (v_ rfl rfl) rfl (a_ (f_ rfl) rfl ?_)
    cases r2
    · skip
      replace hr2 := of_decide_eq_false hr2
      refine k_ rfl rfl rfl rfl (k_ rfl rfl rfl rfl (k_ rfl rfl rfl rfl (k_ rfl rfl rfl rfl (k_ rfl rfl rfl rfl (a_ (t_ rfl rfl) rfl (a_ (e_ rfl) rfl (d_ (b_ rfl (u_ ?_)))))))))
      exact Y_ Tryz.results162 () (s_ rfl (by unfold mW_; simp_all <;> omega)) x_ (fun _ _ _ => trivial)
    · skip
      replace hr2 := of_decide_eq_true hr2
      refine i_ rfl rfl (a_ (h_ I_ rfl rfl rfl q_) rfl (i_ rfl rfl (a_ (n_ 1 B_ rfl rfl rfl) rfl (i_ rfl rfl (a_ (h_ I_ rfl rfl rfl q_) rfl (i_ rfl rfl (a_ (n_ 0 B_ rfl rfl rfl) rfl (i_ rfl rfl (E_ (cb_ rfl rfl) rfl fun r3 hr3 => ?_)))))))))
      refine a_ (v_ rfl rfl) rfl (a_ (e_ rfl) rfl (d_ (b_ rfl (u_ ?_))))
      exact Y_ Tryz.results162 () (s_ rfl (by unfold mW_; simp_all <;> omega)) x_ (fun _ _ _ => trivial)
theorem hC_ (a b c d : Int) (ha : -1099511627776 ≤ a ∧ a ≤ b ∧ b ≤ 1099511627776) (hb : -1099511627776 ≤ c ∧ c ≤ d ∧ d ≤ 1099511627776) : Fn0 Tryz.prog 162 #[ivV (a, b), ivV (c, d)] (.bool (decide (c ≤ a ∧ b ≤ d))) := by
  have := ny_ (a, b) (c, d)
  rw [pB_ ha hb] at this
  exact this
end Go.Proofs.YtaffcjgphlhppaaGreatDoor
