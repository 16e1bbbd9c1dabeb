/-
  Part of the proof of the law NormalAtoms over this seat (no condition).
-/
import Derived.Test.YtoafjmalfclpoaaGreatDoorPk2
import Derived.Laws.OwnMore
import Derived.Shelf.Strings.Builder1
import Derived.Shelf.Strings.Builder2
import Derived.Shelf.Strings.OnBuilder
import Derived.Shelf.Small.Bits
import Derived.Shelf.Small.Strs
import Derived.Shelf.Small.Wraps
import Derived.Shelf.Strconv.Itoa0
import Derived.Shelf.Strconv.Itoa1
import Derived.Shelf.LaysM
import Derived.Shelf.Strconv.Itoa2
import Derived.Shelf.Strconv.Itoa3
import Derived.Shelf.Strings.Search1
import Derived.Shelf.Strings.Search2
import Derived.Shelf.Strings.Search3
import Derived.Shelf.Strings.Cut
import Derived.Shelf.Strings.Count
import Derived.Shelf.Strings.Shaped
import Derived.Shelf.Sort.Plain
import Derived.Shelf.Unicode.DecodeSlow
import Derived.Shelf.Slices.CompactS
import Derived.Shelf.Slices.Cells
import Derived.Shelf.Slices.In.SortNone
import Derived.Test.YtoafjmalfclpoaaGreatDoorProg
import Derived.Lib.Bytealg
import Derived.Lib.Small
import Derived.Lib.SlicesCompact
import Derived.Sort.EncStr
import Derived.Test.YtoafjmalfclpoaaGreatDoorPk3
import Derived.Test.YtoafjmalfclpoaaGreatDoorPk6
import Derived.Test.YtoafjmalfclpoaaGreatDoorPk5
set_option linter.unusedVariables false
set_option linter.unusedSimpArgs false
set_option linter.unusedSectionVars false
/-
  The small logic: rows of one's own: appended to, read, given away; truth values that are compared.
-/
namespace Go.Sx
open Go
section
variable {P : Program} {N : Nat} {v0 : Vw} {H0 : Hp} {R : Exit → Act → World → Prop} {K : List Kt} {fr : Fr} {H : Hp} {Γ : List Fct}
variable {ops : Array Oper} {l : List Oper} {d : Nat} {ty : TypeId} {ps : String} {af : Array Edge}
/-- append of a row that lasts; it may be nil -/
theorem ops_appendR {x y : Operand} {t e : TypeId} {sz by' n m c : Nat} {sv : Value} {xs news : List Value} {Hr F : Hp} {ad : Option Addr} (he : Elt P t e sz by') (hrow : SRow e sz sv n xs Hr)
    (hx : Fr.ev fr x = some sv) (hy : Fr.ev fr y = some (.slice ad m c)) (hz : ad = none → c = 0) (hmc : m ≤ c) (hH : H.Perm (Hr ++ F)) (hl : news.length = m * sz) (hnews : ∀ v, v.sat H → holds Γ v → RowAt v ad news) (h1c : ∀ u ∈ news, u.oneCell' = true)
    (h63 : n + m ≤ maxLen) (hb : (n + m) * by' ≤ 140737488355328) (hN : Nat.blt d N = true)
    (hk : ∀ sv' Hr', SRow e sz sv' (n + m) (xs ++ news) Hr' → Ops P R N v0 H0 ops l K ((d, sv') :: fr) (Hr' ++ F) Γ) :
    Ops P R N v0 H0 ops (⟨some d, .call ⟨.builtin .append, #[x, y], #[t, t]⟩, ty, ps, af, none⟩ :: l) K fr H Γ := by
  cases ad with
  | none =>
    obtain rfl := hz rfl
    obtain rfl : m = 0 := by omega
    obtain rfl : news = [] := List.eq_nil_of_length_eq_zero (by simpa using hl)
    refine ops_of_wp rfl fun a v h1 h2 h3 h4 => ?_
    obtain ⟨i, z, hi, hz, es, eb, ez⟩ := he.info
    have g := h2.perm hH
    have ho := hrow.owns g
    have hr := run_append_owned_none (P := P) (w := v.w) 0 t ty e i sz he.und hi sv n xs ho
    unfold Oper.wp execOp
    simp only [resolve, invoke, builtin, Sem.run_bind, Sem.run_pure, Result.andThen_ok, List.map_toArray, List.map_cons, List.map_nil, h1.ev hx, h1.ev hy, hr]
    have T : v.to H v (Hr ++ F) := (Vw.to.refl v (Hr ++ F)).permL hH.symm
    exact hk sv Hr (by simpa using hrow) _ v (h1.put hN) g (h3.trans T) h4
  | some a0 =>
    refine ops_append he hrow hx hy hH hl (fun v h2 h4 j u hj => ?_) h1c h63 hb hN hk
    rcases hnews v h2 h4 with h | ⟨b, off, arr, T, fz, h1, _, h3, h5⟩
    · rw [h] at hj; simp at hj
    · rw [Option.some.injEq] at h1
      subst h1
      have := h5 j u hj
      rw [addr_add]
      simp [World.cell?, h3, this]
theorem ops_slit0 {t e : TypeId} {sz : Nat} (hu : ∀ w, (underlying t).run P w = .ok (.slice e) w) (hs : ∀ w, (sizeOf e).run P w = .ok sz w) (hN : Nat.blt d N = true)
    (hk : ∀ b, Ops P R N v0 H0 ops l K ((d, .slice (some ⟨b, 0, none⟩) 0 0) :: fr) ((b, .cells #[] e (0, 0)) :: H) Γ) : Ops P R N v0 H0 ops (⟨some d, .buildSlice t 0 #[], ty, ps, af, none⟩ :: l) K fr H Γ :=
  ops_new (x := fun b => .slice (some ⟨b, 0, none⟩) 0 0) hN (fun a v h1 h2 h4 => by
    simp only [execOp, Instr.buildSlice, Sem.run_bind, hu, Result.andThen_ok, hs, List.map_toArray]
    rw [if_neg (by omega), if_pos (by omega), Nat.zero_mul, show Array.range 0 = #[] by simp]
    simp only [Sem.run_bind, Sem.run_pure, Result.andThen_ok, List.map_nil, List.map_toArray, List.toList_toArray, Instr.fill]
    rfl) hk
theorem ok_giveRowN {k : Act → World → Prop} {e : TypeId} {sz n : Nat} {sv : Value} {xs : List Value} {Hr F : Hp} (hr : SRow e sz sv n xs Hr) (hH : H.Perm (Hr ++ F))
    (h : ∀ ad cap, sv = .slice ad n cap → n ≤ cap → cap ≤ maxLen → (ad = none → cap = 0) → Ok N v0 H0 k fr F (rowF ad xs :: Γ)) : Ok N v0 H0 k fr H Γ := by
  refine ok_giveRow hr hH fun ad cap e1 e2 e3 => h ad cap e1 e2 e3 fun e4 => ?_
  rcases hr.2 with ⟨h1, _, _⟩ | ⟨g, c, cur, h1, _⟩
  · rw [h1] at e1
    simp only [Value.slice.injEq] at e1
    exact e1.2.2.symm
  · rw [h1, e4] at e1
    simp at e1
theorem sad_none {cap i n : Nat} {ad : Option Addr} (h : sad ad cap i n = none) : ad = none := by
  unfold sad at h
  split at h
  · exact h
  · simpa using h
end
end Go.Sx
namespace Go.Sx
open Go
section
variable {P : Program} {N : Nat} {fr : Fr} {H : Hp} {Γ : List Fct} {ty : TypeId} {e : TypeId} {sz n : Nat} {sv : Value} {xs : List Value} {Hr F : Hp}
theorem pf_bare {O : Hp} : List.Perm (O ++ []) O := by rw [List.append_nil]
theorem pf_un {H : Hp} : List.Perm ([] ++ H) H := .refl _
/-- the block of a slice -/
def svB : Value → Nat
  | .slice (some a) _ _ => a.block
  | _ => 0
theorem yld_lenRow {x : Operand} {t e' : TypeId} (hrow : SRow e sz sv n xs Hr) (hu : ∀ w, (underlying t).run P w = .ok (.slice e') w) (hx : Fr.ev fr x = some sv) : Yld P N fr H Γ (.call ⟨.builtin .len, #[x], #[t]⟩) ty (.int .i64 (n : Int)) := by
  rcases hrow.2 with ⟨rfl, rfl, _⟩ | ⟨g, cap, cur, rfl, _⟩
  · exact yld_lenS hu hx
  · exact yld_lenS hu hx
theorem yld_ixRow {x y : Operand} {t e' : TypeId} {k : IntKind} {i : Int} (hrow : SRow e sz sv n xs Hr) (hu : ∀ w, (underlying t).run P w = .ok (.slice e') w) (hs : ∀ w, (sizeOf e').run P w = .ok sz w) (hx : Fr.ev fr x = some sv) (hy : Fr.ev fr y = some (.int k i)) (h0 : 0 ≤ i) (hl : i < n) :
    Yld P N fr H Γ (.indexAddr t x y) ty (.pointer (some ⟨svB sv, i.toNat * sz, none⟩)) := by
  rcases hrow.2 with ⟨_, h2, _⟩ | ⟨g, cap, cur, rfl, _⟩
  · omega
  · have := yld_index (P := P) (N := N) (H := H) (Γ := Γ) (ty := ty) hu hs hx hy h0 hl
    rw [Nat.zero_add] at this
    exact this
theorem yld_ldRow {x : Operand} {t : TypeId} {k : Nat} {us : List Value} (hrow : SRow e sz sv n xs Hr) (hH : H.Perm (Hr ++ F)) (ha : ∀ w, (isAgg t).run P w = .ok true w) (hs : ∀ w, (sizeOf t).run P w = .ok sz w) (hx : Fr.ev fr x = some (.pointer (some ⟨svB sv, k, none⟩)))
    (hn : us.length = sz) (hp : 0 < sz) (hu : ∀ j y, us[j]? = some y → xs[k + j]? = some y) : Yld P N fr H Γ (.load t x) ty (.agg us.toArray) := by
  rcases hrow.2 with ⟨_, h2, _⟩ | ⟨g, cap, cur, rfl, rfl, h3, h4, h5, h6⟩
  · subst h2
    have h1 := hrow.1
    have : xs = [] := List.eq_nil_of_length_eq_zero (by simpa using h1)
    subst this
    have := hu 0 us[0] (List.getElem?_eq_getElem (by omega))
    simp at this
  · refine yld_loadX hx fun v h2 _ => run_loadVar_agg ha hs hn fun j y hj => ?_
    have hb := ((h2.perm hH).own _ (List.mem_append_left _ List.mem_cons_self)).1
    have hc := hu j y hj
    rw [← h6, List.getElem?_take] at hc
    split at hc
    · have hc' : cur[k + j]? = some y := by simpa using hc
      simp only [svB, World.cell?, hb, Option.isSome_none, Bool.false_eq_true, if_false]
      exact hc'
    · cases hc
end
end Go.Sx
namespace Go.Sx
open Go
section
variable {P : Program} {N : Nat} {fr : Fr} {H : Hp} {Γ : List Fct} {ty : TypeId} {e : TypeId} {sz n : Nat} {sv : Value} {xs : List Value} {Hr F : Hp}
theorem yld_ld1Row {x : Operand} {t : TypeId} {k : Nat} {u : Value} (hrow : SRow e sz sv n xs Hr) (hH : H.Perm (Hr ++ F)) (ha : ∀ w, (isAgg t).run P w = .ok false w) (hx : Fr.ev fr x = some (.pointer (some ⟨svB sv, k, none⟩)))
    (hu : xs[k]? = some u) : Yld P N fr H Γ (.load t x) ty u := by
  rcases hrow.2 with ⟨_, h2, _⟩ | ⟨g, cap, cur, rfl, rfl, h3, h4, h5, h6⟩
  · subst h2
    have : xs = [] := List.eq_nil_of_length_eq_zero (by simpa using hrow.1)
    subst this; simp at hu
  · refine yld_loadX hx fun v h2 _ => run_loadVar_one ha ?_
    have hb := ((h2.perm hH).own _ (List.mem_append_left _ List.mem_cons_self)).1
    rw [← h6, List.getElem?_take] at hu
    split at hu
    · have hc' : cur[k]? = some u := by simpa using hu
      simp only [svB, World.cell?, hb, Option.isSome_none, Bool.false_eq_true, if_false]
      exact hc'
    · cases hu
theorem srow_one (h : SRow e sz sv n xs Hr) : sv.cells = #[sv] ∧ sv.oneCell' = true := by
  rcases h.2 with ⟨rfl, _⟩ | ⟨g, cap, cur, rfl, _⟩ <;> exact ⟨rfl, rfl⟩
theorem ops_storeRow {v0 : Vw} {H0 : Hp} {R : Exit → Act → World → Prop} {K : List Kt} {ops : Array Oper} {l : List Oper} {ps : String} {af : Array Edge} {t : TypeId} {x y : Operand} {b off : Nat} (i : Nat) {cur : Array Value} {T : TypeId} (hrow : SRow e sz sv n xs Hr) (hs : ∀ w, (sizeOf t).run P w = .ok 1 w)
    (hx : Fr.ev fr x = some (.pointer (some ⟨b, off, none⟩))) (hy : Fr.ev fr y = some sv) (hi : H[i]? = some (b, .cells cur T (0, 0))) (hf : Nat.ble (off + 1) cur.size = true)
    (hk : Ops P R N v0 H0 ops l K fr (H.set i (b, .cells (cur.toList.take off ++ [sv] ++ cur.toList.drop (off + 1)).toArray T (0, 0))) Γ) : Ops P R N v0 H0 ops (⟨none, .store t x y, ty, ps, af, none⟩ :: l) K fr H Γ :=
  ops_store i hs hx hy hi (by rw [(srow_one hrow).1]; rfl) hf (by rw [(srow_one hrow).1]; simp [(srow_one hrow).2]) (by rw [(srow_one hrow).1]; exact hk)
theorem yld_maxI {x y : Operand} {t t' : TypeId} {m k : Int} (hx : Fr.ev fr x = some (.int .i64 m)) (hy : Fr.ev fr y = some (.int .i64 k)) : Yld P N fr H Γ (.call ⟨.builtin .max, #[x, y], #[t, t']⟩) ty (.int .i64 (max m k)) := by
  have e : (if m < k then k else m) = max m k := by split <;> omega
  exact e ▸ yld_max hx hy
theorem yld_minI {x y : Operand} {t t' : TypeId} {m k : Int} (hx : Fr.ev fr x = some (.int .i64 m)) (hy : Fr.ev fr y = some (.int .i64 k)) : Yld P N fr H Γ (.call ⟨.builtin .min, #[x, y], #[t, t']⟩) ty (.int .i64 (min m k)) := by
  have e : (if k < m then k else m) = min m k := by split <;> omega
  exact e ▸ yld_min hx hy
theorem yld_bneq {t t' : TypeId} {x y : Operand} {m n : Bool} (hu : P.underlying t = some .bool) (hx : Fr.ev fr x = some (.bool m)) (hy : Fr.ev fr y = some (.bool n)) : Yld P N fr H Γ (.binOp .neq t x y t') ty (.bool (m != n)) :=
  fun a v h1 _ _ _ _ _ => by simp [execOp, h1.ev hx, h1.ev hy, eqGuard, binOp, run_equal_bool v.w t m n hu, bne]
theorem yld_beql {t t' : TypeId} {x y : Operand} {m n : Bool} (hu : P.underlying t = some .bool) (hx : Fr.ev fr x = some (.bool m)) (hy : Fr.ev fr y = some (.bool n)) : Yld P N fr H Γ (.binOp .eql t x y t') ty (.bool (m == n)) :=
  fun a v h1 _ _ _ _ _ => by simp [execOp, h1.ev hx, h1.ev hy, eqGuard, binOp, run_equal_bool v.w t m n hu]
theorem one_rows {α : Type} {f : α → List Value} (hf : ∀ x, (f x).all Value.oneCell' = true) {l : List α} {u : Value} (h : u ∈ l.flatMap f) : u.oneCell' = true := by
  obtain ⟨y, _, hy⟩ := List.mem_flatMap.1 h
  exact List.all_eq_true.1 (hf y) u hy
end
end Go.Sx

/-
  Contracts of the library, laid by the kit: chosen ones.
-/
namespace Go.Proofs
open Go.Shelf
def Tryz.lays106_ren : Go.Shelf.Ren := ⟨fun | 106 => 116 | 213 => 147 | 265 => 171 | n => n, fun | 9 => 9 | 3 => 3 | n => n, fun | n => n⟩
theorem Tryz.lays106 : Go.Proofs.Lays.n106 Tryz.prog Tryz.lays106_ren := {
  mixed := by kernel_rfl
  f106 := Tryz.func116.trans (congrArg some (by kernel_rfl))
  f213 := Tryz.func147.trans (congrArg some (by kernel_rfl))
  f265 := Tryz.func171.trans (congrArg some (by kernel_rfl))
  t3 := Tryz.underlying3
  a3 := Tryz.isAgg3
  z3 := Tryz.sizeOf3
  v3 := Tryz.zeroValue3
  t9 := Tryz.underlying9
  a9 := Tryz.isAgg9
  z9 := Tryz.sizeOf9
  v9 := Tryz.zeroValue9 }
open Go.RowKit in
theorem Tryz.strings_Compare (a b : ByteArray) (w : World) :
    Calls Tryz.prog 116 #[.string a, .string b] w fun e w' => e = .returned (.int .i64 (Lib.compareBytes a.data.toList b.data.toList)) ∧ w' = w := Any.strings_Compare Tryz.lays106 a b w
end Go.Proofs

/-
  Atoms and roles of what is valid are valid; sizes; sub-concepts of valid concepts are valid.
-/
namespace Go.Vs
open Go Go.Sx
/-! ### names -/
theorem word_ne {s : Str} (h : wordS s = true) : ∃ c t, s = c :: t ∧ letterS c = true ∧ tailS s = true := by
  cases s with
  | nil => simp [wordS] at h
  | cons c t =>
    simp only [wordS, Bool.and_eq_true] at h
    exact ⟨c, t, rfl, h.1.1.2, h.1.2⟩
theorem plain_head {s : Str} (h : plainS s = true) : ∃ c t, s = c :: t ∧ letterS c = true := by
  unfold plainS at h
  simp only [Bool.and_eq_true] at h
  cases hx : ixS 58 s with
  | none => rw [hx] at h; obtain ⟨c, t, h1, h2, _⟩ := word_ne h.2; exact ⟨c, t, h1, h2⟩
  | some k =>
    rw [hx] at h
    simp only [Bool.and_eq_true] at h
    obtain ⟨c, t, h1, h2, _⟩ := word_ne h.2.1
    cases s with
    | nil => simp at h1
    | cons d u =>
      cases k with
      | zero => simp at h1
      | succ k => simp only [List.take_succ_cons, List.cons.injEq] at h1; exact ⟨d, u, rfl, h1.1 ▸ h2⟩
theorem tail_mem {s : Str} (h : tailS s = true) : ∀ c ∈ s, innerS c = true := fun c hc => List.all_eq_true.1 h c hc
theorem ixS_split {c : UInt8} {s : Str} {k : Nat} (h : ixS c s = some k) : s = s.take k ++ c :: s.drop (k + 1) := by
  induction s generalizing k with
  | nil => simp [ixS] at h
  | cons b s ih =>
    simp only [ixS] at h
    split at h
    · rename_i hb
      simp only [Option.some.injEq] at h
      subst h; subst hb; simp
    · cases hx : ixS c s with
      | none => rw [hx] at h; simp at h
      | some j =>
        rw [hx] at h
        simp only [Option.map_some, Option.some.injEq] at h
        subst h
        simp only [List.take_succ_cons, List.drop_succ_cons, List.cons_append]
        rw [← ih hx]
theorem plain_mem {s : Str} (h : plainS s = true) : ∀ c ∈ s, innerS c = true ∨ c = 58 := by
  unfold plainS at h
  simp only [Bool.and_eq_true] at h
  cases hx : ixS 58 s with
  | none => rw [hx] at h; obtain ⟨_, _, _, _, h3⟩ := word_ne h.2; exact fun c hc => .inl (tail_mem h3 c hc)
  | some k =>
    rw [hx] at h
    simp only [Bool.and_eq_true] at h
    obtain ⟨_, _, _, _, h3⟩ := word_ne h.2.1
    obtain ⟨_, _, _, _, h4⟩ := word_ne h.2.2
    intro c hc
    rw [ixS_split hx] at hc
    rcases List.mem_append.1 hc with hc | hc
    · exact .inl (tail_mem h3 c hc)
    · rcases List.mem_cons.1 hc with rfl | hc
      · exact .inr rfl
      · exact .inl (tail_mem h4 c hc)
theorem ixS_not_mem {c : UInt8} : ∀ {s : Str}, c ∉ s → ixS c s = none
  | [], _ => rfl
  | b :: s, h => by
    simp only [List.mem_cons, not_or] at h
    simp only [ixS]
    rw [if_neg (fun e => h.1 e.symm), ixS_not_mem h.2]; rfl
theorem plain_nodot {s : Str} (h : plainS s = true) : splitS 46 s = [s] :=
  splitS_none (ixS_not_mem fun hm => by rcases plain_mem h 46 hm with h | h <;> revert h <;> decide)
theorem person_of_plain {s : Str} (h : plainS s = true) : personS s = true := by simp [personS, h]
theorem role_plain {s : Str} (h : plainS s = true) : roleS s = true := by
  unfold roleS
  rw [plain_nodot h]
  simp [person_of_plain h]
theorem splitS_app (c : UInt8) : ∀ (f r : Str), splitS c (f ++ [c] ++ r) = splitS c f ++ splitS c r
  | [], r => by simp [splitS]
  | b :: f, r => by
    have ih := splitS_app c f r
    simp only [List.append_assoc, List.cons_append, List.nil_append] at ih ⊢
    by_cases hb : b = c
    · subst hb; simp only [splitS, if_true, ih, List.cons_append]
    · simp only [splitS, hb, if_false, ih]
      cases hs : splitS c f with
      | nil => exact absurd hs (splitS_ne c f)
      | cons x t => simp
theorem letter_not {c : UInt8} (h : letterS c = true) : c ≠ 42 ∧ c ≠ 33 ∧ c ≠ 123 ∧ c ≠ 60 ∧ c ≠ 95 := by
  refine ⟨?_, ?_, ?_, ?_, ?_⟩ <;> rintro rfl <;> revert h <;> decide
theorem atom_plain {s : Str} (h : plainS s = true) : atomS s = true := by
  obtain ⟨c, t, rfl, hc⟩ := plain_head h
  obtain ⟨h1, h2, h3, h4, _⟩ := letter_not hc
  unfold atomS
  rw [if_neg (by simp [h1, h2]), if_neg (by simp [h3]), if_neg (by simp [h4])]
  exact person_of_plain h
theorem atom_ind {s : Str} (h : personS s = true) : atomS ([123] ++ s ++ [125]) = true := by
  unfold atomS
  have e : ([123] ++ s ++ [125]).length = s.length + 2 := by simp
  rw [if_neg (by simp), if_pos (by
    refine ⟨by omega, by simp, ?_⟩
    rw [List.getElem?_append_right (by simp)]; simp)]
  rw [e]
  have : (List.drop 1 ([123] ++ s ++ [125])).take (s.length + 2 - 1 - 1) = s := by simp
  rw [this]; exact h
theorem atom_angle {t : Str} (h : t ≠ []) : atomS ([60] ++ t ++ [62]) = true := by
  unfold atomS
  have hl : 0 < t.length := List.length_pos_iff.2 h
  have e : ([60] ++ t ++ [62]).length = t.length + 2 := by simp
  rw [if_neg (by simp), if_neg (by simp), if_pos (by
    refine ⟨by omega, by simp, ?_⟩
    rw [List.getElem?_append_right (by simp)]; simp)]
/-! ### sizes and nesting -/
namespace Con
def dep : Con → Nat
  | mk _ _ _ _ _ _ ps => deps ps
where deps : List Con → Nat
  | [] => 0
  | p :: ps => max (1 + dep p) (deps ps)
theorem dep_mem {p : Con} : ∀ {ps : List Con}, p ∈ ps → 1 + p.dep ≤ dep.deps ps
  | q :: ps, h => by
    rcases List.mem_cons.1 h with rfl | h
    · simp only [dep.deps]; omega
    · have := dep_mem h; simp only [dep.deps]; omega
theorem dep_eq (c : Con) : c.dep = dep.deps c.parts := by cases c; rfl
theorem sz_eq (c : Con) : c.sz = 1 + sz.szs c.parts := by cases c; rfl
theorem fits_iff : ∀ (m : Nat) (c : Con), c.sz ≤ m → ∀ d n, (c.fits d n).1 = true ↔ d + c.dep ≤ 8 ∧ n + c.sz ≤ 64
  | 0, c, h => by have := c.sz_pos; omega
  | m + 1, c, h => fun d n => by
    have key : ∀ ps : List Con, (∀ p ∈ ps, p.sz ≤ m) → ∀ n, n ≤ 64 → ((fits.fitss ps (d + 1) n).1 = true ↔ (∀ p ∈ ps, d + 1 + p.dep ≤ 8) ∧ n + sz.szs ps ≤ 64) := by
      intro ps
      induction ps with
      | nil => intro _ n hn; simp [fits.fitss, sz.szs, hn]
      | cons p ps ih =>
        intro hp n hn
        have h1 := fits_iff m p (hp p (by simp)) (d + 1) n
        simp only [fits.fitss, sz.szs, List.mem_cons, forall_eq_or_imp]
        rcases hq : p.fits (d + 1) n with ⟨b, q⟩
        rw [hq] at h1
        cases b with
        | true =>
          have hs := fits_sz _ p (Nat.le_refl _) (d + 1) n (by rw [hq])
          rw [hq] at hs
          simp only at hs h1 ⊢
          have h2 := h1.1 trivial
          rw [ih (fun r hr => hp r (by simp [hr])) q (by omega)]
          constructor
          · rintro ⟨a, b⟩; exact ⟨⟨h2.1, a⟩, by omega⟩
          · rintro ⟨⟨_, a⟩, b⟩; exact ⟨a, by omega⟩
        | false =>
          simp only [Bool.false_eq_true, false_iff] at h1 ⊢
          rintro ⟨⟨a, _⟩, b⟩
          exact h1 ⟨a, by omega⟩
    have hd := dep_eq c
    have hz := sz_eq c
    rw [fits_eq]
    split
    · rename_i hc
      simp only [Bool.or_eq_true, decide_eq_true_eq] at hc
      simp only [Bool.false_eq_true, false_iff]
      rintro ⟨a, b⟩
      omega
    · rename_i hc
      simp only [Bool.or_eq_true, decide_eq_true_eq, not_or] at hc
      rw [key c.parts (fun p hp => by have := sz_part hp; omega) (n + 1) (by omega), hd, hz]
      constructor
      · rintro ⟨a, b⟩
        refine ⟨?_, by omega⟩
        have : ∀ ps : List Con, (∀ p ∈ ps, d + 1 + p.dep ≤ 8) → d + dep.deps ps ≤ 8 := by
          intro ps
          induction ps with
          | nil => intro _; simp [dep.deps]; omega
          | cons p ps ih =>
            intro hp
            have h1 := hp p (by simp)
            have h2 := ih fun q hq => hp q (by simp [hq])
            simp only [dep.deps]; omega
        exact this _ a
      · rintro ⟨a, b⟩
        exact ⟨fun p hp => by have := dep_mem hp; omega, by omega⟩
theorem check_iff (c : Con) : c.check = 0 ↔ c.dep ≤ 8 ∧ c.sz ≤ 64 ∧ c.fine := by
  unfold check fine
  have h := fits_iff _ c (Nat.le_refl _) 0 0
  by_cases hf : (c.fits 0 0).1 = true
  · rw [if_pos hf]
    have := h.1 hf
    constructor
    · intro e; exact ⟨by omega, by omega, e⟩
    · exact fun e => e.2.2
  · rw [if_neg hf]
    constructor
    · intro e; cases e
    · intro e; exact absurd (h.2 ⟨by omega, by omega⟩) hf
theorem check_part {c p : Con} (h : c.check = 0) (hp : p ∈ c.parts) : p.check = 0 := by
  rw [check_iff] at h ⊢
  have h1 := dep_mem hp
  rw [← dep_eq] at h1
  have h2 := sz_part hp
  exact ⟨by omega, by omega, fine_part h.2.2 hp⟩
structure Names (c : Con) : Prop where
  plain : c.kind = 3 ∨ c.kind = 6 ∨ c.kind = 7 → plainS c.name = true
  person : c.kind = 4 → personS c.name = true
  nums : c.kind = 7 → -1099511627776 ≤ c.lo ∧ c.lo ≤ c.hi ∧ c.hi ≤ 1099511627776
theorem names_of {c : Con} (h : c.fine) : Names c := by
  have F := fields h
  have hk : c.kind = 1 ∨ c.kind = 2 ∨ c.kind = 3 ∨ c.kind = 4 ∨ c.kind = 5 ∨ c.kind = 6 ∨ c.kind = 7 := by have := F.k1; have := F.k7; omega
  have h0 := ((fine_iff c).1 h).1
  unfold fieldErr at h0
  rw [if_neg (by have := F.k1; have := F.k7; omega)] at h0
  split at h0
  · cases h0
  · split at h0
    · cases h0
    · rename_i h3
      split at h0
      · cases h0
      · split at h0
        · rename_i h5
          refine ⟨fun e => ?_, fun e => ?_, fun e => ?_⟩
          · rcases e with e | e | e <;> rw [e] at h5 <;> simpa [nd, needL] using h5
          · rw [e] at h5
            simp [nd, needL] at h5
            simp [personS, h5]
          · rw [e] at h3
            simp [nd, needL] at h3
            omega
        · cases h0
theorem join_two (x y : Str) (r : List Str) (sep : Str) : Lib.join (x :: y :: r) sep = x ++ sep ++ Lib.join (y :: r) sep := by simp [Lib.join, List.intercalate]
theorem text_ne {c : Con} (h : c.fine) (hk : 5 ≤ c.kind) : c.text ≠ [] := by
  have F := fields h
  have h7 := F.k7
  rw [text_eq, if_neg (by omega), if_neg (by omega), if_neg (by omega), if_neg (by omega)]
  split
  · rename_i h5
    have hl := F.le
    rw [h5] at hl
    simp [nd, needL] at hl
    match hp : c.parts, hl with
    | [], hl => simp at hl
    | [_], hl => simp at hl
    | p :: q :: r, _ => simp only [List.map_cons, join_two]; simp
  · split
    · simp only [join_two]; simp
    · simp only [join_two]; simp
theorem atom_ok {c : Con} (h : c.check = 0) : atomS c.atom = true := by
  have hf := (check_zero h).1
  have F := fields hf
  have N := names_of hf
  have h1 := F.k1
  have h7 := F.k7
  unfold atom
  split
  · rfl
  · split
    · rfl
    · split
      · exact atom_plain (N.plain (by omega))
      · split
        · exact atom_ind (N.person (by omega))
        · unfold textN
          rw [if_pos h]
          exact atom_angle (text_ne hf (by omega))
theorem atom_len {c : Con} (hok : c.ok) (h : c.check = 0) : c.atom.length ≤ 7000 := by
  have F := fields (check_zero h).1
  have hn := F.nm
  have ht := textN_len hok
  unfold atom
  repeat' split
  all_goals simp <;> omega
/-- the first parts of a conjunction -/
theorem pre_check {c : Con} (h : c.check = 0) (hk : c.kind = 5) {j : Nat} (h2 : 2 ≤ j) (hj : j ≤ c.parts.length) : (c.pre j).check = 0 := by
  have hf := (check_zero h).1
  have F := fields hf
  have hmo := F.mo
  rw [hk] at hmo
  simp [nd, needL] at hmo
  rw [check_iff] at h ⊢
  have key : ∀ (ps : List Con) (j : Nat), sz.szs (ps.take j) ≤ sz.szs ps ∧ dep.deps (ps.take j) ≤ dep.deps ps := by
    intro ps
    induction ps with
    | nil => intro j; simp
    | cons p ps ih =>
      intro j
      cases j with
      | zero => simp [sz.szs, dep.deps]
      | succ j => have := ih j; simp only [List.take_succ_cons, sz.szs, dep.deps]; omega
  have h1 := key c.parts j
  have e1 := dep_eq c
  have e2 := sz_eq c
  refine ⟨?_, ?_, ?_⟩
  · rw [dep_eq]; show dep.deps (c.parts.take j) ≤ 8; omega
  · rw [sz_eq]; show 1 + sz.szs (c.parts.take j) ≤ 64; omega
  · rw [fine_iff]
    refine ⟨?_, fun p hp => fine_part hf (List.mem_of_mem_take hp)⟩
    unfold fieldErr
    have hlen : (c.pre j).parts.length = j := by show (c.parts.take j).length = j; simp; omega
    rw [if_neg (by show ¬ ((5 : Int) < 1 ∨ 7 < (5 : Int)); omega)]
    simp only [hlen]
    have hk5 : (c.pre j).kind = 5 := rfl
    rw [hk5]
    simp [nd, needL, pre, name, lo, hi]
    omega
end Con
end Go.Vs

/-
  Texts of different concepts differ: the plain law of NormalAtoms.
-/
namespace Go.Vs
open Go Go.Sx
set_option linter.unusedVariables false
/-! ### numerals -/
theorem dd_val : ∀ (k u : Nat), u < 10 ^ k → (Lib.decDigits u).foldl (fun n c => 10 * n + (c.toNat - 48)) 0 = u
  | 0, u, h => by
    have : u = 0 := by simpa using h
    subst this; rw [Lib.decDigits, dif_pos (by decide)]; decide
  | k + 1, u, h => by
    rw [Lib.decDigits]
    split
    · rename_i h10
      simp only [List.foldl_cons, List.foldl_nil, UInt8.toNat_ofNat']
      omega
    · rename_i h10
      have ih := dd_val k (u / 10) (by rw [Nat.pow_succ] at h; omega)
      rw [List.foldl_append, ih]
      simp only [List.foldl_cons, List.foldl_nil, UInt8.toNat_ofNat']
      omega
theorem lt_ten (u : Nat) : u < 10 ^ u := by
  induction u with
  | zero => decide
  | succ u ih => rw [Nat.pow_succ]; omega
theorem dd_inj {u v : Nat} (h : Lib.decDigits u = Lib.decDigits v) : u = v := by
  rw [← dd_val u u (lt_ten u), ← dd_val v v (lt_ten v), h]
def dig (c : UInt8) : Bool := decide (48 ≤ c.toNat ∧ c.toNat ≤ 57)
theorem dd_dig : ∀ (k u : Nat), u < 10 ^ k → ∀ c ∈ Lib.decDigits u, dig c = true
  | 0, u, h => by
    have : u = 0 := by simpa using h
    subst this; rw [Lib.decDigits, dif_pos (by decide)]; decide
  | k + 1, u, h => by
    rw [Lib.decDigits]
    split
    · rename_i h10
      intro c hc
      rw [List.mem_singleton] at hc; subst hc
      simp only [dig, decide_eq_true_eq, UInt8.toNat_ofNat']
      omega
    · rename_i h10
      intro c hc
      rcases List.mem_append.1 hc with hc | hc
      · exact dd_dig k (u / 10) (by rw [Nat.pow_succ] at h; omega) c hc
      · rw [List.mem_singleton] at hc; subst hc
        simp only [dig, decide_eq_true_eq, UInt8.toNat_ofNat']
        omega
theorem dd_head {u : Nat} {r : Str} : Lib.decDigits u ≠ 45 :: r := fun h => by
  have := dd_dig u u (lt_ten u) 45 (by rw [h]; simp)
  revert this; decide
theorem itoa_inj {m n : Int} (h : Lib.itoa m = Lib.itoa n) : m = n := by
  unfold Lib.itoa at h
  split at h
  · split at h
    · simp only [List.cons.injEq, true_and] at h
      have := dd_inj h
      omega
    · exact absurd h.symm dd_head
  · split at h
    · exact absurd h dd_head
    · have := dd_inj h
      omega
/-- no delimiter -/
def inw (c : UInt8) : Bool := !(c == 32 || c == 41 || c == 62)
def Dl : Str → Prop
  | [] => True
  | c :: _ => inw c = false
theorem inw_of {c : UInt8} (h : ¬ (c = 32 ∨ c = 41 ∨ c = 62)) : inw c = true := by
  simp only [not_or] at h
  simp [inw, h]
theorem dl32 {r : Str} : Dl (32 :: r) := show inw 32 = false by decide
theorem itoa_inw (n : Int) : ∀ c ∈ Lib.itoa n, inw c = true := by
  have hd : ∀ c : UInt8, dig c = true → inw c = true := fun c h => inw_of (fun e => by rcases e with rfl | rfl | rfl <;> revert h <;> decide)
  unfold Lib.itoa
  split
  · intro c hc
    rcases List.mem_cons.1 hc with rfl | hc
    · decide
    · exact hd c (dd_dig _ _ (lt_ten _) c hc)
  · exact fun c hc => hd c (dd_dig _ _ (lt_ten _) c hc)
/-- words up to a delimiter -/
theorem word_cut : ∀ {w w' r r' : Str}, (∀ c ∈ w, inw c = true) → (∀ c ∈ w', inw c = true) → Dl r → Dl r' → w ++ r = w' ++ r' → w = w' ∧ r = r'
  | [], [], r, r', _, _, _, _, h => ⟨rfl, h⟩
  | [], c :: w', r, r', _, h2, h3, _, h => by
    simp only [List.nil_append, List.cons_append] at h
    subst h
    have := h2 c (by simp)
    rw [show inw c = false from h3] at this; cases this
  | c :: w, [], r, r', h1, _, _, h4, h => by
    simp only [List.nil_append, List.cons_append] at h
    subst h
    have := h1 c (by simp)
    rw [show inw c = false from h4] at this; cases this
  | c :: w, d :: w', r, r', h1, h2, h3, h4, h => by
    simp only [List.cons_append, List.cons.injEq] at h
    obtain ⟨e1, e2⟩ := word_cut (fun x hx => h1 x (by simp [hx])) (fun x hx => h2 x (by simp [hx])) h3 h4 h.2
    exact ⟨by rw [h.1, e1], e2⟩
theorem inner_inw (c : UInt8) (h : innerS c = true) : inw c = true := inw_of (fun e => by rcases e with rfl | rfl | rfl <;> revert h <;> decide)
theorem plain_inw {s : Str} (h : plainS s = true) : ∀ c ∈ s, inw c = true := fun c hc => (plain_mem h c hc).elim (inner_inw c) (fun e => by subst e; decide)
theorem reserved_inw {s : Str} (h : reservedS s = true) : ∀ c ∈ s, inw c = true := fun c hc => by
  unfold reservedS at h
  simp only [Bool.and_eq_true] at h
  exact inner_inw c (tail_mem h.2 c hc)
theorem person_inw {s : Str} (h : personS s = true) : ∀ c ∈ s, inw c = true := by
  unfold personS at h
  simp only [Bool.or_eq_true] at h
  exact h.elim plain_inw reserved_inw
namespace Con
/-- the same concept, wherever it lies -/
def same : Con → Con → Prop
  | mk k n lo hi _ _ ps, mk k' n' lo' hi' _ _ ps' => k = k' ∧ n = n' ∧ lo = lo' ∧ hi = hi' ∧ sames ps ps'
where sames : List Con → List Con → Prop
  | [], [] => True
  | p :: ps, q :: qs => same p q ∧ sames ps qs
  | _, _ => False
theorem same_iff (c d : Con) : c.same d ↔ c.kind = d.kind ∧ c.name = d.name ∧ c.lo = d.lo ∧ c.hi = d.hi ∧ same.sames c.parts d.parts := by
  cases c; cases d; simp only [same, kind, name, lo, hi, parts]
/-- what may stand behind the text of an operand -/
def Suf (s : Str) : Prop := s = [] ∨ (∃ t, s = 41 :: t) ∨ (∃ t, s = 62 :: t) ∨ ∃ t, s = [32, 97, 110, 100, 32] ++ t
def Cls (s : Str) : Prop := s = [] ∨ (∃ t, s = 41 :: t) ∨ (∃ t, s = 62 :: t)
theorem Cls.suf {s : Str} (h : Cls s) : Suf s := h.elim .inl fun h => .inr (h.elim .inl fun h => .inr (.inl h))
theorem Suf.dl {s : Str} (h : Suf s) : Dl s := by
  rcases h with rfl | ⟨t, rfl⟩ | ⟨t, rfl⟩ | ⟨t, rfl⟩
  · trivial
  all_goals (show inw _ = false; decide)

theorem join_cons (x : Str) (r : List Str) (sep : Str) : Lib.join (x :: r) sep = x ++ (match r with | [] => [] | _ :: _ => sep ++ Lib.join r sep) := by
  cases r with
  | nil => simp [Lib.join_one]
  | cons y r => rw [join_two]; simp
/-- the first word of an operand that is no conjunction, and the rest -/
def w1 (c : Con) : Str := if c.kind = 1 then [101, 118, 101, 114, 121, 116, 104, 105, 110, 103] else if c.kind = 2 then [110, 111, 116, 104, 105, 110, 103] else if c.kind = 4 then [123] ++ c.name ++ [125] else if c.kind = 6 then [115, 111, 109, 101] else c.name
def w2 (c : Con) : Str := if c.kind = 6 then [32] ++ c.name ++ [32] ++ (c.parts.map operand).headD [] else if c.kind = 7 then [32, 105, 110, 32] ++ Lib.itoa c.lo ++ [32, 116, 111, 32] ++ Lib.itoa c.hi else []
theorem op_words {c : Con} (h5 : c.kind ≠ 5) (h1 : 1 ≤ c.kind) (h7 : c.kind ≤ 7) : c.operand = c.w1 ++ c.w2 := by
  have hk : c.kind = 1 ∨ c.kind = 2 ∨ c.kind = 3 ∨ c.kind = 4 ∨ c.kind = 6 ∨ c.kind = 7 := by omega
  unfold operand w1 w2
  rw [if_neg h5, text_eq]
  rcases hk with h | h | h | h | h | h
  · simp [h]
  · simp [h]
  · simp [h]
  · simp [h]
  · simp [h, join_two, Lib.join_one]
  · simp [h, join_two, Lib.join_one]
theorem kw_not {s : Str} (h : plainS s = true) {k : Str} (hk : k ∈ kws) : s ≠ k := fun e => by
  subst e
  have hc : ∀ k ∈ kws, plainS k = false := by decide
  rw [hc s hk] at h; cases h
theorem plain_no_brace {s : Str} (h : plainS s = true) {r : Str} : s ≠ 123 :: r := fun e => by
  obtain ⟨c, t, h1, h2⟩ := plain_head h
  rw [e] at h1
  simp only [List.cons.injEq] at h1
  rw [← h1.1] at h2
  revert h2; decide
theorem w1_inw {c : Con} (h : c.fine) (h5 : c.kind ≠ 5) : ∀ x ∈ c.w1, inw x = true := by
  have F := fields h
  have N := names_of h
  have hk : c.kind = 1 ∨ c.kind = 2 ∨ c.kind = 3 ∨ c.kind = 4 ∨ c.kind = 6 ∨ c.kind = 7 := by have := F.k1; have := F.k7; omega
  unfold w1
  rcases hk with k | k | k | k | k | k
  · simp [k]; decide
  · simp [k]; decide
  · simp [k]; exact plain_inw (N.plain (by omega))
  · simp [k]
    refine ⟨by decide, fun x hx => ?_⟩
    rcases hx with hx | rfl
    · exact person_inw (N.person k) x hx
    · decide
  · simp [k]; decide
  · simp [k]; exact plain_inw (N.plain (by omega))
theorem w2_dl (c : Con) {s : Str} (hs : Dl s) : Dl (c.w2 ++ s) := by
  unfold w2
  split
  · show inw 32 = false; decide
  · split
    · show inw 32 = false; decide
    · exact hs
/-- the first word tells the kind, but for names and ranges -/
theorem w1_kind {c d : Con} (hc : c.fine) (hd : d.fine) (c5 : c.kind ≠ 5) (d5 : d.kind ≠ 5) (h : c.w1 = d.w1) : c.kind = d.kind ∨ (c.kind = 3 ∧ d.kind = 7) ∨ (c.kind = 7 ∧ d.kind = 3) := by
 have F := fields hc
 have G := fields hd
 have N := names_of hc
 have M := names_of hd
 have hk : c.kind = 1 ∨ c.kind = 2 ∨ (c.kind = 3 ∨ c.kind = 7) ∨ c.kind = 4 ∨ c.kind = 6 := by have := F.k1; have := F.k7; omega
 have hl : d.kind = 1 ∨ d.kind = 2 ∨ (d.kind = 3 ∨ d.kind = 7) ∨ d.kind = 4 ∨ d.kind = 6 := by have := G.k1; have := G.k7; omega
 have pc : c.kind = 3 ∨ c.kind = 7 → c.w1 = c.name ∧ plainS c.name = true := fun k => ⟨by unfold w1; rcases k with k | k <;> simp [k], N.plain (by omega)⟩
 have pd : d.kind = 3 ∨ d.kind = 7 → d.w1 = d.name ∧ plainS d.name = true := fun k => ⟨by unfold w1; rcases k with k | k <;> simp [k], M.plain (by omega)⟩
 have kc : ∀ k : Con, k.kind = 1 → k.w1 = [101, 118, 101, 114, 121, 116, 104, 105, 110, 103] := fun k e => by simp [w1, e]
 have kd : ∀ k : Con, k.kind = 2 → k.w1 = [110, 111, 116, 104, 105, 110, 103] := fun k e => by simp [w1, e]
 have ke : ∀ k : Con, k.kind = 4 → k.w1 = 123 :: (k.name ++ [125]) := fun k e => by simp [w1, e]
 have kf : ∀ k : Con, k.kind = 6 → k.w1 = [115, 111, 109, 101] := fun k e => by simp [w1, e]
 have q1 : [101, 118, 101, 114, 121, 116, 104, 105, 110, 103] ∈ kws := by decide
 have q2 : [110, 111, 116, 104, 105, 110, 103] ∈ kws := by decide
 have q6 : [115, 111, 109, 101] ∈ kws := by decide
 rcases hk with k | k | k | k | k <;> rcases hl with l | l | l | l | l
 · exact .inl (by omega)
 · rw [kc c k, kd d l] at h; exact absurd h (by decide)
 · rw [kc c k, (pd l).1] at h; exact absurd h.symm (kw_not (pd l).2 q1)
 · rw [kc c k, ke d l] at h; simp at h
 · rw [kc c k, kf d l] at h; exact absurd h (by decide)
 · rw [kd c k, kc d l] at h; exact absurd h (by decide)
 · exact .inl (by omega)
 · rw [kd c k, (pd l).1] at h; exact absurd h.symm (kw_not (pd l).2 q2)
 · rw [kd c k, ke d l] at h; simp at h
 · rw [kd c k, kf d l] at h; exact absurd h (by decide)
 · rw [(pc k).1, kc d l] at h; exact absurd h (kw_not (pc k).2 q1)
 · rw [(pc k).1, kd d l] at h; exact absurd h (kw_not (pc k).2 q2)
 · omega
 · rw [(pc k).1, ke d l] at h; exact absurd h (plain_no_brace (pc k).2)
 · rw [(pc k).1, kf d l] at h; exact absurd h (kw_not (pc k).2 q6)
 · rw [ke c k, kc d l] at h; simp at h
 · rw [ke c k, kd d l] at h; simp at h
 · rw [ke c k, (pd l).1] at h; exact absurd h.symm (plain_no_brace (pd l).2)
 · exact .inl (by omega)
 · rw [ke c k, kf d l] at h; simp at h
 · rw [kf c k, kc d l] at h; exact absurd h (by decide)
 · rw [kf c k, kd d l] at h; exact absurd h (by decide)
 · rw [kf c k, (pd l).1] at h; exact absurd h.symm (kw_not (pd l).2 q6)
 · rw [kf c k, ke d l] at h; simp at h
 · exact .inl (by omega)
/-- fields that are not used -/
structure Blank (c : Con) : Prop where
  nm : c.kind = 1 ∨ c.kind = 2 ∨ c.kind = 5 → c.name = []
  num : c.kind ≠ 7 → c.lo = 0 ∧ c.hi = 0
  none : c.kind ≠ 5 → c.kind ≠ 6 → c.parts = []
  one : c.kind = 6 → ∃ p, c.parts = [p]
  two : c.kind = 5 → ∃ p q r, c.parts = p :: q :: r
theorem blank_of {c : Con} (h : c.fine) : Blank c := by
  have F := fields h
  have hk : c.kind = 1 ∨ c.kind = 2 ∨ c.kind = 3 ∨ c.kind = 4 ∨ c.kind = 5 ∨ c.kind = 6 ∨ c.kind = 7 := by have := F.k1; have := F.k7; omega
  have hle := F.le
  have hmo := F.mo
  have h0 := ((fine_iff c).1 h).1
  unfold fieldErr at h0
  rw [if_neg (by have := F.k1; have := F.k7; omega)] at h0
  split at h0
  · cases h0
  · rename_i h2
    split at h0
    · cases h0
    · split at h0
      · cases h0
      · rename_i h4
        refine ⟨fun e => ?_, fun e => ?_, fun e e' => ?_, fun e => ?_, fun e => ?_⟩
        · simp only [not_or, not_and] at h2
          have := h2.2.2
          rcases e with e | e | e <;> rw [e] at this <;> simpa [nd, needL] using this
        · rcases hk with k | k | k | k | k | k | k <;> rw [k] at h4 <;> simp [nd, needL] at h4 <;> first | exact h4 | exact absurd k e
        · rcases hk with k | k | k | k | k | k | k <;> rw [k] at hmo <;> simp [nd, needL] at hmo <;> first | exact List.eq_nil_of_length_eq_zero (by omega) | exact absurd k e | exact absurd k e' | exact hmo
        · rw [e] at hle hmo
          simp [nd, needL] at hle hmo
          exact List.length_eq_one_iff.1 (by omega)
        · rw [e] at hle
          simp [nd, needL] at hle
          match hp : c.parts, hle with
          | p :: q :: r, _ => exact ⟨p, q, r, rfl⟩
          | [], hl => simp at hl
          | [_], hl => simp at hl
theorem join_inj {m : Nat} (ih : ∀ c d : Con, c.sz ≤ m → c.fine → d.fine → ∀ s t, Suf s → Suf t → c.operand ++ s = d.operand ++ t → c.same d ∧ s = t) :
    ∀ (ps qs : List Con), (∀ p ∈ ps, p.sz ≤ m ∧ p.fine) → (∀ q ∈ qs, q.fine) → ps ≠ [] → qs ≠ [] → ∀ s t, Cls s → Cls t → Lib.join (ps.map operand) [32, 97, 110, 100, 32] ++ s = Lib.join (qs.map operand) [32, 97, 110, 100, 32] ++ t → same.sames ps qs ∧ s = t
  | [], _, _, _, h, _, _, _, _, _, _ => absurd rfl h
  | _, [], _, _, _, h, _, _, _, _, _ => absurd rfl h
  | p :: ps, q :: qs, hp, hq, _, _, s, t, hs, ht, h => by
    rw [List.map_cons, List.map_cons, join_cons, join_cons, List.append_assoc, List.append_assoc] at h
    have nosp : ∀ {x : Str}, Cls x → ∀ y, x ≠ 32 :: y := fun hx y e => by
      rcases hx with rfl | ⟨_, rfl⟩ | ⟨_, rfl⟩ <;> simp at e
    cases ps with
    | nil =>
      cases qs with
      | nil =>
        simp only [List.map_nil, List.nil_append] at h
        obtain ⟨g1, g2⟩ := ih p q (hp p (by simp)).1 (hp p (by simp)).2 (hq q (by simp)) s t hs.suf ht.suf h
        exact ⟨⟨g1, trivial⟩, g2⟩
      | cons q' qs =>
        simp only [List.map_nil, List.nil_append, List.map_cons] at h
        obtain ⟨_, g2⟩ := ih p q (hp p (by simp)).1 (hp p (by simp)).2 (hq q (by simp)) s _ hs.suf (.inr (.inr (.inr ⟨_, by rw [List.append_assoc]⟩))) h
        exact absurd g2 (nosp hs _)
    | cons p' ps =>
      cases qs with
      | nil =>
        simp only [List.map_nil, List.nil_append, List.map_cons] at h
        obtain ⟨_, g2⟩ := ih p q (hp p (by simp)).1 (hp p (by simp)).2 (hq q (by simp)) _ t (.inr (.inr (.inr ⟨_, by rw [List.append_assoc]⟩))) ht.suf h
        exact absurd g2.symm (nosp ht _)
      | cons q' qs =>
        simp only [List.map_cons] at h
        obtain ⟨g1, g2⟩ := ih p q (hp p (by simp)).1 (hp p (by simp)).2 (hq q (by simp)) _ _ (.inr (.inr (.inr ⟨_, by rw [List.append_assoc]⟩))) (.inr (.inr (.inr ⟨_, by rw [List.append_assoc]⟩))) h
        simp only [List.cons_append, List.nil_append, List.cons.injEq, true_and] at g2
        have := join_inj ih (p' :: ps) (q' :: qs) (fun x hx => hp x (by simp [hx])) (fun x hx => hq x (by simp [hx])) (by simp) (by simp) s t hs ht (by simpa using g2)
        exact ⟨⟨g1, this.1⟩, this.2⟩
theorem op_inj : ∀ (m : Nat) (c d : Con), c.sz ≤ m → c.fine → d.fine → ∀ s t, Suf s → Suf t → c.operand ++ s = d.operand ++ t → c.same d ∧ s = t
  | 0, c, _, h => by have := c.sz_pos; omega
  | m + 1, c, d, hm => fun hc hd s t hs ht h => by
    have F := fields hc
    have G := fields hd
    have Bc := blank_of hc
    have Bd := blank_of hd
    have N := names_of hc
    have M := names_of hd
    have par : ∀ {x : Con} {u v : Str}, x.fine → x.kind ≠ 5 → x.operand ++ u ≠ 40 :: v := fun {x u v} hx k5 e => by
      have X := fields hx
      rw [op_words k5 X.k1 X.k7, List.append_assoc] at e
      have hw := w1_inw hx k5
      have NX := names_of hx
      have hk : x.kind = 1 ∨ x.kind = 2 ∨ (x.kind = 3 ∨ x.kind = 7) ∨ x.kind = 4 ∨ x.kind = 6 := by have := X.k1; have := X.k7; omega
      rcases hk with k | k | k | k | k
      · simp [w1, k] at e
      · simp [w1, k] at e
      · have e1 : x.w1 = x.name := by unfold w1; rcases k with k | k <;> simp [k]
        rw [e1] at e
        obtain ⟨ch, tl, h1, h2⟩ := plain_head (NX.plain (by omega))
        rw [h1] at e
        simp only [List.cons_append, List.cons.injEq] at e
        rw [e.1] at h2
        revert h2; decide
      · simp [w1, k] at e
      · simp [w1, k] at e
    by_cases c5 : c.kind = 5
    · by_cases d5 : d.kind = 5
      · unfold operand at h
        rw [if_pos c5, if_pos d5, text_eq, text_eq] at h
        simp only [c5, d5] at h
        simp at h
        obtain ⟨p, p', ps, ep⟩ := Bc.two c5
        obtain ⟨q, q', qs, eq'⟩ := Bd.two d5
        obtain ⟨g1, g2⟩ := join_inj (op_inj m) c.parts d.parts (fun x hx => ⟨by have := sz_part hx; omega, fine_part hc hx⟩) (fun x hx => fine_part hd hx) (by rw [ep]; simp) (by rw [eq']; simp) (41 :: s) (41 :: t) (.inr (.inl ⟨_, rfl⟩)) (.inr (.inl ⟨_, rfl⟩)) h
        refine ⟨(same_iff c d).2 ⟨by omega, by rw [Bc.nm (by omega), Bd.nm (by omega)], by rw [(Bc.num (by omega)).1, (Bd.num (by omega)).1], by rw [(Bc.num (by omega)).2, (Bd.num (by omega)).2], g1⟩, by simpa using g2⟩
      · exfalso
        have e : c.operand ++ s = 40 :: (c.text ++ [41] ++ s) := by unfold operand; rw [if_pos c5]; simp
        rw [e] at h
        exact par hd d5 h.symm
    · by_cases d5 : d.kind = 5
      · exfalso
        have e : d.operand ++ t = 40 :: (d.text ++ [41] ++ t) := by unfold operand; rw [if_pos d5]; simp
        rw [e] at h
        exact par hc c5 h
      · rw [op_words c5 F.k1 F.k7, op_words d5 G.k1 G.k7, List.append_assoc, List.append_assoc] at h
        obtain ⟨g1, g2⟩ := word_cut (w1_inw hc c5) (w1_inw hd d5) (w2_dl c hs.dl) (w2_dl d ht.dl) h
        have noin : ∀ {x : Str}, Suf x → ∀ y, x ≠ 32 :: 105 :: y := fun hx y e => by
          rcases hx with rfl | ⟨_, rfl⟩ | ⟨_, rfl⟩ | ⟨_, rfl⟩ <;> simp at e
        rcases w1_kind hc hd c5 d5 g1 with hk | hk | hk
        · have hk7 : c.kind = 1 ∨ c.kind = 2 ∨ c.kind = 3 ∨ c.kind = 4 ∨ c.kind = 6 ∨ c.kind = 7 := by have := F.k1; have := F.k7; omega
          have flat : c.kind ≠ 6 → c.kind ≠ 7 → c.name = d.name → c.same d ∧ s = t := fun h6 h7 hn => by
            have e1 : c.w2 = [] := by simp [w2, h6, h7]
            have e2 : d.w2 = [] := by simp [w2, ← hk, h6, h7]
            rw [e1, e2] at g2
            refine ⟨(same_iff c d).2 ⟨hk, hn, by rw [(Bc.num h7).1, (Bd.num (by omega)).1], by rw [(Bc.num h7).2, (Bd.num (by omega)).2], ?_⟩, g2⟩
            rw [Bc.none c5 h6, Bd.none d5 (by omega)]
            trivial
          rcases hk7 with k | k | k | k | k | k
          · exact flat (by omega) (by omega) (by rw [Bc.nm (by omega), Bd.nm (by omega)])
          · exact flat (by omega) (by omega) (by rw [Bc.nm (by omega), Bd.nm (by omega)])
          · refine flat (by omega) (by omega) ?_
            unfold w1 at g1
            simpa [← hk, k] using g1
          · refine flat (by omega) (by omega) ?_
            unfold w1 at g1
            simpa [← hk, k] using g1
          · obtain ⟨p, ep⟩ := Bc.one k
            obtain ⟨q, eq'⟩ := Bd.one (by omega)
            unfold w2 at g2
            rw [if_pos k, if_pos (by omega), ep, eq'] at g2
            simp only [List.map_cons, List.headD_cons, List.append_assoc, List.cons_append, List.nil_append, List.cons.injEq, true_and] at g2
            obtain ⟨j1, j2⟩ := word_cut (plain_inw (N.plain (by omega))) (plain_inw (M.plain (by omega))) dl32 dl32 g2
            simp only [List.cons.injEq, true_and] at j2
            obtain ⟨i1, i2⟩ := op_inj m p q (by have := sz_part (c := c) (p := p) (by rw [ep]; simp); omega) (fine_part hc (by rw [ep]; simp)) (fine_part hd (by rw [eq']; simp)) s t hs ht j2
            refine ⟨(same_iff c d).2 ⟨hk, j1, by rw [(Bc.num (by omega)).1, (Bd.num (by omega)).1], by rw [(Bc.num (by omega)).2, (Bd.num (by omega)).2], ?_⟩, i2⟩
            rw [ep, eq']
            exact ⟨i1, trivial⟩
          · have hn : c.name = d.name := by
              unfold w1 at g1
              simpa [← hk, k] using g1
            have e1 : c.w2 = [32, 105, 110, 32] ++ Lib.itoa c.lo ++ [32, 116, 111, 32] ++ Lib.itoa c.hi := by simp [w2, k]
            have e2 : d.w2 = [32, 105, 110, 32] ++ Lib.itoa d.lo ++ [32, 116, 111, 32] ++ Lib.itoa d.hi := by simp [w2, ← hk, k]
            rw [e1, e2] at g2
            simp only [List.append_assoc, List.cons_append, List.nil_append, List.cons.injEq, true_and] at g2
            obtain ⟨j1, j2⟩ := word_cut (itoa_inw _) (itoa_inw _) dl32 dl32 g2
            simp only [List.cons.injEq, true_and] at j2
            obtain ⟨i1, i2⟩ := word_cut (itoa_inw _) (itoa_inw _) hs.dl ht.dl j2
            refine ⟨(same_iff c d).2 ⟨hk, hn, itoa_inj j1, itoa_inj i1, ?_⟩, i2⟩
            rw [Bc.none c5 (by omega), Bd.none d5 (by omega)]
            trivial
        · exfalso
          have e1 : c.w2 = [] := by simp [w2, hk.1]
          have e2 : d.w2 = [32, 105, 110, 32] ++ Lib.itoa d.lo ++ [32, 116, 111, 32] ++ Lib.itoa d.hi := by simp [w2, hk.2]
          rw [e1, e2] at g2
          exact noin hs _ g2
        · exfalso
          have e1 : d.w2 = [] := by simp [w2, hk.2]
          have e2 : c.w2 = [32, 105, 110, 32] ++ Lib.itoa c.lo ++ [32, 116, 111, 32] ++ Lib.itoa c.hi := by simp [w2, hk.1]
          rw [e1, e2] at g2
          exact noin ht _ g2.symm

theorem text_inj {c d : Con} (hc : c.fine) (hd : d.fine) (c5 : 5 ≤ c.kind) (d5 : 5 ≤ d.kind) (h : c.text ++ [62] = d.text ++ [62]) : c.same d := by
  have F := fields hc
  have G := fields hd
  have cl : Cls [62] := .inr (.inr ⟨[], rfl⟩)
  have op : ∀ x : Con, x.kind ≠ 5 → x.text = x.operand := fun x hx => by unfold operand; rw [if_neg hx]
  have bc : c.kind = 5 → (∃ p q r, c.parts = p :: q :: r) ∧ c.text = Lib.join (c.parts.map operand) [32, 97, 110, 100, 32] := fun k => ⟨(blank_of hc).two k, by rw [text_eq]; simp [k]⟩
  have bd : d.kind = 5 → (∃ p q r, d.parts = p :: q :: r) ∧ d.text = Lib.join (d.parts.map operand) [32, 97, 110, 100, 32] := fun k => ⟨(blank_of hd).two k, by rw [text_eq]; simp [k]⟩
  by_cases k : c.kind = 5
  · obtain ⟨⟨p, p', ps, ep⟩, et⟩ := bc k
    by_cases l : d.kind = 5
    · obtain ⟨⟨q, q', qs, eq'⟩, eu⟩ := bd l
      rw [et, eu] at h
      have := (join_inj (op_inj c.sz) c.parts d.parts (fun x hx => ⟨by have := sz_part hx; omega, fine_part hc hx⟩) (fun x hx => fine_part hd hx) (by rw [ep]; simp) (by rw [eq']; simp) _ _ cl cl h).1
      have Bc := blank_of hc
      have Bd := blank_of hd
      exact (same_iff c d).2 ⟨by omega, by rw [Bc.nm (by omega), Bd.nm (by omega)], by rw [(Bc.num (by omega)).1, (Bd.num (by omega)).1], by rw [(Bc.num (by omega)).2, (Bd.num (by omega)).2], this⟩
    · exfalso
      rw [et, op d l, ep, List.map_cons, join_cons, List.append_assoc] at h
      simp only [List.map_cons] at h
      have hp : p ∈ c.parts := by rw [ep]; simp
      have := (op_inj p.sz p d (Nat.le_refl _) (fine_part hc hp) hd _ _ (.inr (.inr (.inr ⟨_, by rw [List.append_assoc]⟩))) cl.suf h).2
      simp at this
  · by_cases l : d.kind = 5
    · obtain ⟨⟨q, q', qs, eq'⟩, eu⟩ := bd l
      exfalso
      rw [eu, op c k, eq', List.map_cons, join_cons, List.append_assoc] at h
      simp only [List.map_cons] at h
      have hq : q ∈ d.parts := by rw [eq']; simp
      have := (op_inj c.sz c q (Nat.le_refl _) hc (fine_part hd hq) _ _ cl.suf (.inr (.inr (.inr ⟨_, by rw [List.append_assoc]⟩))) h).2
      simp at this
    · rw [op c k, op d l] at h
      exact (op_inj c.sz c d (Nat.le_refl _) hc hd _ _ cl.suf cl.suf h).1
theorem same_text : ∀ (m : Nat) (c d : Con), c.sz ≤ m → c.same d → c.text = d.text
  | 0, c, _, h => by have := c.sz_pos; omega
  | m + 1, c, d, hm => fun h => by
    obtain ⟨h1, h2, h3, h4, h5⟩ := (same_iff c d).1 h
    have key : ∀ (ps qs : List Con), (∀ p ∈ ps, p.sz ≤ m) → same.sames ps qs → ps.map operand = qs.map operand := by
      intro ps
      induction ps with
      | nil => intro qs _ hq; cases qs with
        | nil => rfl
        | cons q qs => exact hq.elim
      | cons p ps ih =>
        intro qs hp hq
        cases qs with
        | nil => exact hq.elim
        | cons q qs =>
          have e1 := same_text m p q (hp p (by simp)) hq.1
          have e2 := ih qs (fun x hx => hp x (by simp [hx])) hq.2
          have e3 := ((same_iff p q).1 hq.1).1
          simp only [List.map_cons, e2, List.cons.injEq, and_true]
          unfold operand
          rw [e3, e1]
    have e := key c.parts d.parts (fun p hp => by have := sz_part hp; omega) h5
    rw [text_eq, text_eq, h1, h2, h3, h4, e]

theorem fine_of_check {c : Con} (h : c.check = 0) : c.fine := (check_zero h).1
/-- atoms are equal exactly if the concepts are -/
theorem atom_iff {c d : Con} (hc : c.check = 0) (hd : d.check = 0) : c.atom = d.atom ↔ c.same d := by
  have fc := fine_of_check hc
  have fd := fine_of_check hd
  have F := fields fc
  have G := fields fd
  have N := names_of fc
  have M := names_of fd
  have Bc := blank_of fc
  have Bd := blank_of fd
  have a1 : ∀ x : Con, x.kind = 1 → x.atom = [42] := fun x k => by simp [atom, k]
  have a2 : ∀ x : Con, x.kind = 2 → x.atom = [33] := fun x k => by simp [atom, k]
  have a3 : ∀ x : Con, x.kind = 3 → x.atom = x.name := fun x k => by simp [atom, k]
  have a4 : ∀ x : Con, x.kind = 4 → x.atom = 123 :: (x.name ++ [125]) := fun x k => by simp [atom, k]
  have a5 : ∀ x : Con, x.check = 0 → 5 ≤ x.kind → x.atom = 60 :: (x.text ++ [62]) := fun x h k => by
    unfold atom textN
    rw [if_neg (by omega), if_neg (by omega), if_neg (by omega), if_neg (by omega), if_pos h]; simp
  have pl : ∀ {s : Str}, plainS s = true → ∀ {b : UInt8} {r : Str}, s = b :: r → letterS b = true := fun h b r e => by
    obtain ⟨ch, tl, h1, h2⟩ := plain_head h
    rw [e] at h1
    simp only [List.cons.injEq] at h1
    rw [h1.1]; exact h2
  have flat : c.kind = d.kind → c.kind ≤ 4 → c.name = d.name → c.same d := fun k k4 hn =>
    (same_iff c d).2 ⟨k, hn, by rw [(Bc.num (by omega)).1, (Bd.num (by omega)).1], by rw [(Bc.num (by omega)).2, (Bd.num (by omega)).2], by rw [Bc.none (by omega) (by omega), Bd.none (by omega) (by omega)]; trivial⟩
  constructor
  · intro h
    have hk : c.kind = 1 ∨ c.kind = 2 ∨ c.kind = 3 ∨ c.kind = 4 ∨ 5 ≤ c.kind := by have := F.k1; omega
    have hl : d.kind = 1 ∨ d.kind = 2 ∨ d.kind = 3 ∨ d.kind = 4 ∨ 5 ≤ d.kind := by have := G.k1; omega
    rcases hk with k | k | k | k | k <;> rcases hl with l | l | l | l | l
    · exact flat (by omega) (by omega) (by rw [Bc.nm (by omega), Bd.nm (by omega)])
    · rw [a1 c k, a2 d l] at h; simp at h
    · rw [a1 c k, a3 d l] at h; exact absurd (pl (M.plain (by omega)) h.symm) (by decide)
    · rw [a1 c k, a4 d l] at h; simp at h
    · rw [a1 c k, a5 d hd l] at h; simp at h
    · rw [a2 c k, a1 d l] at h; simp at h
    · exact flat (by omega) (by omega) (by rw [Bc.nm (by omega), Bd.nm (by omega)])
    · rw [a2 c k, a3 d l] at h; exact absurd (pl (M.plain (by omega)) h.symm) (by decide)
    · rw [a2 c k, a4 d l] at h; simp at h
    · rw [a2 c k, a5 d hd l] at h; simp at h
    · rw [a3 c k, a1 d l] at h; exact absurd (pl (N.plain (by omega)) h) (by decide)
    · rw [a3 c k, a2 d l] at h; exact absurd (pl (N.plain (by omega)) h) (by decide)
    · rw [a3 c k, a3 d l] at h; exact flat (by omega) (by omega) h
    · rw [a3 c k, a4 d l] at h; exact absurd (pl (N.plain (by omega)) h) (by decide)
    · rw [a3 c k, a5 d hd l] at h; exact absurd (pl (N.plain (by omega)) h) (by decide)
    · rw [a4 c k, a1 d l] at h; simp at h
    · rw [a4 c k, a2 d l] at h; simp at h
    · rw [a4 c k, a3 d l] at h; exact absurd (pl (M.plain (by omega)) h.symm) (by decide)
    · rw [a4 c k, a4 d l] at h; exact flat (by omega) (by omega) (by simpa using h)
    · rw [a4 c k, a5 d hd l] at h; simp at h
    · rw [a5 c hc k, a1 d l] at h; simp at h
    · rw [a5 c hc k, a2 d l] at h; simp at h
    · rw [a5 c hc k, a3 d l] at h; exact absurd (pl (M.plain (by omega)) h.symm) (by decide)
    · rw [a5 c hc k, a4 d l] at h; simp at h
    · rw [a5 c hc k, a5 d hd l] at h; exact text_inj fc fd k l (by simpa using h)
  · intro h
    obtain ⟨h1, h2, _⟩ := (same_iff c d).1 h
    have ht := same_text c.sz c d (Nat.le_refl _) h
    unfold atom textN
    rw [hc, hd, h1, h2, ht]
end Con
end Go.Vs

/-
  Trees of concepts with their sizes, as data.
-/
namespace Go.Vs
open Go Go.Sx
set_option linter.unusedVariables false
inductive Tr where
  | mk (c : Con) (n : Int) (ad : Option Addr) (cap : Nat) (ps : List Tr)
namespace Tr
def con : Tr → Con | mk c _ _ _ _ => c
def size : Tr → Int | mk _ n _ _ _ => n
def ad : Tr → Option Addr | mk _ _ a _ _ => a
def cap : Tr → Nat | mk _ _ _ c _ => c
def parts : Tr → List Tr | mk _ _ _ _ p => p
def cells (t : Tr) : List Value := [.int .i64 t.con.kind, str t.con.name, .int .i64 t.con.lo, .int .i64 t.con.hi, .slice t.con.ad t.con.parts.length t.con.cap, .int .i64 t.size, .slice t.ad t.parts.length t.cap]
def val (t : Tr) : Value := .agg t.cells.toArray
theorem cells_len (t : Tr) : t.cells.length = 7 := rfl
theorem cells_one (t : Tr) : t.cells.all Value.oneCell' = true := rfl
def mem : Tr → Vw → Prop
  | mk _ _ ad _ ps, v => RowAt v ad (ps.flatMap cells) ∧ mems ps v
where mems : List Tr → Vw → Prop
  | [], _ => True
  | t :: ts, v => mem t v ∧ mems ts v
theorem mem_iff (t : Tr) (v : Vw) : t.mem v ↔ RowAt v t.ad (t.parts.flatMap cells) ∧ mem.mems t.parts v := by cases t; simp only [mem, ad, parts]
theorem mems_iff (v : Vw) : ∀ ts : List Tr, mem.mems ts v ↔ ∀ t ∈ ts, t.mem v
  | [] => by simp [mem.mems]
  | t :: ts => by simp [mem.mems, mems_iff v ts]
mutual
theorem mem_mono {v v' : Vw} (h : v.le v') : ∀ t : Tr, t.mem v → t.mem v'
  | mk _ _ ad _ ps, hm => ⟨(rowF ad _).mono v v' h hm.1, mems_mono h ps hm.2⟩
theorem mems_mono {v v' : Vw} (h : v.le v') : ∀ ts : List Tr, mem.mems ts v → mem.mems ts v'
  | [], _ => trivial
  | t :: ts, hm => ⟨mem_mono h t hm.1, mems_mono h ts hm.2⟩
end
def memF (t : Tr) : Fct := ⟨t.mem, fun _ _ h => mem_mono h t⟩
def memsF (ts : List Tr) : Fct := ⟨mem.mems ts, fun _ _ h => mems_mono h ts⟩
theorem mem_part {t p : Tr} {v : Vw} (h : t.mem v) (hp : p ∈ t.parts) : p.mem v := (mems_iff v _).1 ((mem_iff t v).1 h).2 p hp
theorem mems_snoc {ts : List Tr} {t : Tr} {v : Vw} (h : mem.mems ts v) (ht : t.mem v) : mem.mems (ts ++ [t]) v := (mems_iff v _).2 fun x hx => by
  rcases List.mem_append.1 hx with hx | hx
  · exact (mems_iff v ts).1 h x hx
  · rw [List.mem_singleton] at hx; rw [hx]; exact ht
/-- the tree of a concept -/
def grown : Con → Tr → Prop
  | c@(Con.mk _ _ _ _ _ _ ps), t => t.con = c ∧ t.size = (c.sz : Int) ∧ growns ps t.parts
where growns : List Con → List Tr → Prop
  | [], [] => True
  | p :: ps, t :: ts => grown p t ∧ growns ps ts
  | _, _ => False
theorem grown_iff (c : Con) (t : Tr) : grown c t ↔ t.con = c ∧ t.size = (c.sz : Int) ∧ grown.growns c.parts t.parts := by cases c; simp only [grown, Con.parts]
theorem growns_len : ∀ {ps : List Con} {ts : List Tr}, grown.growns ps ts → ts.length = ps.length
  | [], [], _ => rfl
  | _ :: _, _ :: _, h => by simp [growns_len h.2]
  | [], _ :: _, h => h.elim
  | _ :: _, [], h => h.elim
theorem growns_get : ∀ {ps : List Con} {ts : List Tr} {i : Nat} {t : Tr}, grown.growns ps ts → ts[i]? = some t → ∃ p, ps[i]? = some p ∧ grown p t
  | [], [], _, _, _, h => by simp at h
  | p :: _, _ :: _, 0, _, h, hi => by simp at hi; subst hi; exact ⟨p, rfl, h.1⟩
  | _ :: _, _ :: _, i + 1, _, h, hi => by simpa using growns_get h.2 (by simpa using hi)
  | [], _ :: _, _, _, h, _ => h.elim
  | _ :: _, [], _, _, h, _ => h.elim
theorem growns_snoc : ∀ {ps : List Con} {ts : List Tr} {p : Con} {t : Tr}, grown.growns ps ts → grown p t → grown.growns (ps ++ [p]) (ts ++ [t])
  | [], [], _, _, _, h => ⟨h, trivial⟩
  | _ :: _, _ :: _, _, _, h, h' => ⟨h.1, growns_snoc h.2 h'⟩
  | [], _ :: _, _, _, h, _ => h.elim
  | _ :: _, [], _, _, h, _ => h.elim
theorem growns_step {ps : List Con} {ts : List Tr} {i : Nat} {p : Con} {t : Tr} (h : grown.growns (ps.take i) ts) (hp : ps[i]? = some p) (ht : grown p t) : grown.growns (ps.take (i + 1)) (ts ++ [t]) := by
  rw [List.take_add_one, hp, Option.toList_some]; exact growns_snoc h ht
end Tr
/-- the first that is not 0 -/
def orL : List Int → Int
  | [] => 0
  | x :: l => if x = 0 then orL l else x
theorem orL_at : ∀ {l : List Int} {i : Nat} {x : Int}, (∀ y ∈ l.take i, y = 0) → l[i]? = some x → x ≠ 0 → orL l = x
  | [], _, _, _, h, _ => by simp at h
  | y :: l, 0, x, _, h, hx => by simp at h; subst h; simp [orL, hx]
  | y :: l, i + 1, x, h0, h, hx => by
    have hy : y = 0 := h0 y (by simp)
    rw [orL, if_pos hy]
    exact orL_at (i := i) (fun z hz => h0 z (by rw [List.take_succ_cons]; exact List.mem_cons_of_mem _ hz)) (by simpa using h) hx
theorem orL_zero : ∀ {l : List Int}, orL l = 0 ↔ ∀ y ∈ l, y = 0
  | [] => by simp [orL]
  | y :: l => by
    by_cases h : y = 0
    · simp [orL, h, orL_zero (l := l)]
    · simp [orL, h]
theorem cmpI_zero (x y : Int) : Lib.compareInt x y = 0 ↔ x = y := by
  unfold Lib.compareInt
  repeat' split
  all_goals omega
theorem cmpS_zero : ∀ (x y : Str), Lib.compareBytes x y = 0 ↔ x = y
  | [], [] => by simp [Lib.compareBytes]
  | [], _ :: _ => by simp [Lib.compareBytes]
  | _ :: _, [] => by simp [Lib.compareBytes]
  | a :: x, b :: y => by
    have ih := cmpS_zero x y
    simp only [Lib.compareBytes]
    by_cases h1 : a < b
    · rw [if_pos h1]
      refine ⟨fun h => by omega, fun h => ?_⟩
      simp only [List.cons.injEq] at h
      exact absurd h1 (h.1 ▸ UInt8.lt_irrefl _)
    · rw [if_neg h1]
      by_cases h2 : b < a
      · rw [if_pos h2]
        refine ⟨fun h => by omega, fun h => ?_⟩
        simp only [List.cons.injEq] at h
        exact absurd h2 (h.1 ▸ UInt8.lt_irrefl _)
      · rw [if_neg h2, ih]
        have e : a = b := UInt8.le_antisymm (UInt8.not_lt.1 h2) (UInt8.not_lt.1 h1)
        simp [e]
end Go.Vs

/-
  Indices of pieces; sorted lists of strings without repetition; rows that a library function rewrites.
-/
namespace Go.Sx
open Go
section
variable {P : Program} {N : Nat} {fr : Fr} {H : Hp} {Γ : List Fct}
theorem bless_eq : ∀ (x y : List UInt8), Op.bytesLess x y = decide (x < y)
  | [], [] => by simp [Op.bytesLess]
  | _ :: _, [] => by simp [Op.bytesLess]
  | [], _ :: _ => by simp [Op.bytesLess]
  | a :: x, b :: y => by
    rw [Op.bytesLess, bless_eq x y]
    simp only [List.cons_lt_cons_iff]
    by_cases h1 : a < b <;> by_cases h2 : a = b <;> by_cases h3 : x < y <;> simp [h1, h2, h3]
theorem bleq_eq (x y : List UInt8) : (Op.bytesLess x y || x == y) = decide (x ≤ y) := by
  rw [bless_eq]
  by_cases h : x ≤ y
  · rw [decide_eq_true h]
    by_cases e : x = y
    · simp [e]
    · have : x < y := by
        apply Decidable.byContradiction
        intro h2
        exact e (List.le_antisymm h (List.not_lt.1 h2))
      simp [this]
  · rw [decide_eq_false h]
    have h1 : ¬ x < y := fun q => h (List.le_of_lt q)
    have h2 : x ≠ y := fun e => h (e ▸ List.le_refl x)
    simp [h1, h2]
theorem yld_slss {t t' ty : TypeId} {x y : Operand} {m n : List UInt8} (hx : Fr.ev fr x = some (str m)) (hy : Fr.ev fr y = some (str n)) : Yld P N fr H Γ (.binOp .lss t x y t') ty (.bool (decide (m < n))) :=
  fun a v h1 _ _ _ _ _ => by rw [← bless_eq]; simp [execOp, h1.ev hx, h1.ev hy, str, eqGuard, binOp, Op.stringOp]
theorem yld_sleq {t t' ty : TypeId} {x y : Operand} {m n : List UInt8} (hx : Fr.ev fr x = some (str m)) (hy : Fr.ev fr y = some (str n)) : Yld P N fr H Γ (.binOp .leq t x y t') ty (.bool (decide (m ≤ n))) :=
  fun a v h1 _ _ _ _ _ => by rw [← bleq_eq]; simp [execOp, h1.ev hx, h1.ev hy, str, eqGuard, binOp, Op.stringOp]
/-- a library function that rewrites a row of one's own -/
theorem tri_of_put {f : FuncId} {args : Array Value} {r : Value} {g : Nat} {cur : Array Value} {T : TypeId} {d : Array (List UInt8)} (hc : Callable P f)
    (h : ∀ v : Vw, v.sat [(g, .cells cur T (0, 0))] → Calls P f args v.w fun e w' => e = .returned r ∧ ∃ n os, w' = Sort.grow (Sort.putRow Go.Proofs.encStr (Sort.ahead v.w n) g 0 d) os) :
    Tri P f args [(g, .cells cur T (0, 0))] Γ (fun _ : Unit => r) (fun _ => [(g, .cells (Sort.putCells Go.Proofs.encStr 0 d cur) T (0, 0))]) (fun _ => []) :=
  ⟨hc, fun v h1 _ => (h v h1).mono fun e w' ⟨he, n, os, hw⟩ => by
    have hg := (h1.own _ List.mem_cons_self)
    have hlt : g < v.w.heap.size := (Array.getElem?_eq_some_iff.1 hg.1).1
    have hb : ∀ b, b < v.w.heap.size → w'.heap[b]? = if b = g then some (.cells (Sort.putCells Go.Proofs.encStr 0 d cur) T (0, 0)) else v.w.heap[b]? := fun b hb => by
      rw [hw]
      simp only [Sort.grow, Sort.putRow, Sort.mapBlock, Sort.ahead]
      rw [Array.getElem?_append_left (by simpa using hb), Array.getElem?_modify]
      by_cases e : b = g
      · subst e
        simp only [if_true, hg.1, Option.map_some, Sort.onCells]
      · rw [if_neg (fun q => e q.symm), if_neg e]
    have hsz : v.w.heap.size ≤ w'.heap.size := by rw [hw]; simp [Sort.grow, Sort.putRow, Sort.mapBlock, Sort.ahead]
    refine ⟨(), ⟨v.im, w'⟩, he, rfl, ⟨fun p hp => ?_, by simp, fun b hbb => Nat.lt_of_lt_of_le (h1.lt b hbb) hsz⟩, trivial, ⟨by rw [hw]; rfl, by rw [hw]; rfl, by rw [hw]; rfl, hsz, fun b hbb hn => ?_, fun _ h => h, fun _ h => .inl h, fun b hm => .inl (by simpa using hm)⟩⟩
    · simp only [List.mem_singleton] at hp
      subst hp
      exact ⟨by show w'.heap[g]? = _; rw [hb g hlt, if_pos rfl], hg.2⟩
    · have hn' : b ≠ g := by simpa using hn
      show w'.heap[b]? = _
      rw [hb b hbb, if_neg hn']⟩
theorem put_take {cur : Array Value} {d : List (List UInt8)} (hs : d.length ≤ cur.size) : (Sort.putCells Go.Proofs.encStr 0 d.toArray cur).toList.take d.length = d.flatMap strC := by
  rw [strC_map]
  apply List.ext_getElem?
  intro j
  rw [List.getElem?_take, List.getElem?_map]
  split
  · rename_i hj
    simp only [Sort.putCells, Array.getElem?_toList, Array.getElem?_mapIdx]
    rw [Array.getElem?_eq_getElem (by omega)]
    simp only [Option.map_some, Nat.zero_le, true_and, Nat.zero_add, List.size_toArray, hj, if_true, Nat.sub_zero]
    rw [List.getElem?_eq_getElem hj]
    simp only [Option.map_some]
    rw [getElem!_pos d.toArray j (by simpa using hj)]
    rfl
  · rename_i hj
    rw [List.getElem?_eq_none (by omega)]; rfl
theorem put_size {cur : Array Value} {d : Array (List UInt8)} : (Sort.putCells Go.Proofs.encStr 0 d cur).size = cur.size := by simp [Sort.putCells]
end
end Go.Sx
namespace Go.Vs
open Go Go.Sx
/-- the places of the pieces with this From -/
def ofs (a : Int) : Nat → List Pc → List Int
  | _, [] => []
  | i, p :: r => if p.frm = a then (i : Int) :: ofs a (i + 1) r else ofs a (i + 1) r
theorem ofs_append (a : Int) : ∀ (xs ys : List Pc) (i : Nat), ofs a i (xs ++ ys) = ofs a i xs ++ ofs a (i + xs.length) ys
  | [], ys, i => by simp [ofs]
  | x :: xs, ys, i => by
    simp only [List.cons_append, ofs, List.length_cons]
    rw [ofs_append a xs ys (i + 1), show i + 1 + xs.length = i + (xs.length + 1) by omega]
    split <;> simp
theorem ofs_step (a : Int) {l : List Pc} {p : Pc} {i : Nat} (h : l[i]? = some p) : ofs a 0 (l.take (i + 1)) = ofs a 0 (l.take i) ++ if p.frm = a then [(i : Int)] else [] := by
  have hi := (List.getElem?_eq_some_iff.1 h).1
  rw [List.take_add_one, h, Option.toList_some, ofs_append, List.length_take, Nat.min_eq_left (by omega), Nat.zero_add]
  simp only [ofs]
theorem ofs_len (a : Int) : ∀ (l : List Pc) (i : Nat), (ofs a i l).length ≤ l.length
  | [], _ => by simp [ofs]
  | p :: r, i => by
    have := ofs_len a r (i + 1)
    simp only [ofs]
    split <;> simp <;> omega
def atoms1 (p : Pc) : List Str := [p.a, p.b, p.c].filter fun s => !(s == [])
def atomsR (l : List Pc) : List Str := l.flatMap atoms1
def atomsL (l : List Pc) : List Str := Lib.compact ((atomsR l).mergeSort fun x y => decide (x ≤ y))
theorem atomsR_len : ∀ l : List Pc, (atomsR l).length ≤ 3 * l.length
  | [] => by simp [atomsR]
  | p :: r => by
    have h1 := atomsR_len r
    have h2 : (atoms1 p).length ≤ 3 := by unfold atoms1; exact List.length_filter_le _ _
    simp only [atomsR, List.flatMap_cons, List.length_append, List.length_cons] at h1 ⊢
    omega
theorem sorted_R (l : List Str) : (l.mergeSort fun x y => decide (x ≤ y)).Pairwise fun x y => x ≤ y := by
  have h := List.pairwise_mergeSort (le := fun x y : Str => decide (x ≤ y)) (fun a b c h1 h2 => by simp only [decide_eq_true_eq] at *; exact List.le_trans h1 h2) (fun a b => by
    simp only [Bool.or_eq_true, decide_eq_true_eq]; exact List.le_total a b) l
  exact h.imp (fun h => of_decide_eq_true h)
theorem compact_get {zs : List Str} : Lib.compact zs = ((List.range zs.length).filter fun j => decide (j = 0 ∨ zs[j]! ≠ zs[j - 1]!)).map fun j => zs[j]! := by
  unfold Lib.compact Lib.compactUpTo Lib.keeps
  have e : ∀ j, zs.toArray[j]! = zs[j]! := fun j => by
    by_cases h : j < zs.length
    · rw [getElem!_pos zs.toArray j (by simpa using h), getElem!_pos zs j h]; simp
    · rw [getElem!_neg zs.toArray j (by simpa using h), getElem!_neg zs j h]
  rw [List.map_congr_left fun j _ => e j]
  congr 2
  funext j
  rw [e, e]
theorem compact_len (zs : List Str) : (Lib.compact zs).length ≤ zs.length := by
  rw [compact_get, List.length_map]
  have := List.length_filter_le (fun j => decide (j = 0 ∨ zs[j]! ≠ zs[j - 1]!)) (List.range zs.length)
  simpa using this
theorem compact_mem {zs : List Str} (x : Str) : x ∈ Lib.compact zs ↔ x ∈ zs := by
  rw [compact_get, List.mem_map]
  constructor
  · rintro ⟨j, hj, rfl⟩
    have hl := List.mem_range.1 (List.mem_filter.1 hj).1
    rw [getElem!_pos zs j hl]
    exact List.getElem_mem hl
  · intro hx
    obtain ⟨j, hj, e⟩ := List.mem_iff_getElem.1 hx
    clear hx
    induction j with
    | zero => exact ⟨0, List.mem_filter.2 ⟨List.mem_range.2 hj, by simp⟩, by rw [getElem!_pos zs 0 hj]; exact e⟩
    | succ j ih =>
      by_cases h : zs[j + 1]! = zs[j]!
      · have hj' : j < zs.length := by omega
        refine ih hj' ?_
        rw [getElem!_pos zs (j + 1) hj, getElem!_pos zs j hj'] at h
        rw [← h]; exact e
      · exact ⟨j + 1, List.mem_filter.2 ⟨List.mem_range.2 hj, decide_eq_true (.inr h)⟩, by rw [getElem!_pos zs (j + 1) hj]; exact e⟩
theorem compact_lt {zs : List Str} (hs : zs.Pairwise fun x y => x ≤ y) : (Lib.compact zs).Pairwise fun x y => x < y := by
  rw [compact_get, List.pairwise_map]
  have hr : (List.range zs.length).Pairwise (· < ·) := List.pairwise_lt_range
  have hf := hr.filter (fun j => decide (j = 0 ∨ zs[j]! ≠ zs[j - 1]!))
  refine List.Pairwise.imp_of_mem ?_ hf
  intro j k hj hk hlt
  have hkl := List.mem_range.1 (List.mem_filter.1 hk).1
  have hkk := (List.mem_filter.1 hk).2
  simp only [decide_eq_true_eq] at hkk
  have hne : zs[k]! ≠ zs[k - 1]! := by
    rcases hkk with h | h
    · omega
    · exact h
  have hle : ∀ a b, a ≤ b → b < zs.length → zs[a]! ≤ zs[b]! := by
    intro a b hab hb
    rcases Nat.lt_or_eq_of_le hab with h | h
    · rw [getElem!_pos zs a (by omega), getElem!_pos zs b hb]
      exact List.pairwise_iff_getElem.1 hs a b (by omega) hb h
    · subst h; exact List.le_refl _
  have h1 := hle j (k - 1) (by omega) (by omega)
  have h2 := hle (k - 1) k (by omega) hkl
  have h3 : zs[k - 1]! < zs[k]! := by
    apply Decidable.byContradiction
    intro h
    exact hne (List.le_antisymm (List.not_lt.1 h) h2)
  exact List.lt_of_le_of_lt h1 h3
theorem atomsL_mem (l : List Pc) (x : Str) : x ∈ atomsL l ↔ x ∈ atomsR l := by
  unfold atomsL
  rw [compact_mem, List.mem_mergeSort]
theorem atomsL_lt (l : List Pc) : (atomsL l).Pairwise fun x y => x < y := compact_lt (sorted_R _)
theorem atomsL_len (l : List Pc) : (atomsL l).length ≤ 3 * l.length := by
  have h1 := compact_len ((atomsR l).mergeSort fun x y => decide (x ≤ y))
  rw [List.length_mergeSort] at h1
  have h2 := atomsR_len l
  unfold atomsL
  omega
end Go.Vs

/-
  My own contracts.
-/
namespace Go.Proofs.YtoafjmalfclpoaaGreatDoor
open Go Go.Sx Go.Proofs
set_option linter.unusedVariables false
attribute [local irreducible] Code.wp wpList wpAnyH

open Go.Vs
theorem eltI : Elt Tryz.prog 62 3 1 8 := eltOf Tryz.underlying62 (z := .int .i64 0) (by kernel_rfl) rfl (by decide)
theorem eltS : Elt Tryz.prog 39 9 1 16 := eltOf Tryz.underlying39 (z := .string ⟨#[]⟩) (by kernel_rfl) rfl (by decide)

theorem short_c (l : List Pc) (ad : Option Addr) (cap : Nat) (hl : l.length ≤ 1099511627744) (hbig : ∀ p ∈ l, p.big) : Tri Tryz.prog 27 #[.slice ad (List.length l) cap] [] [rowF ad (List.flatMap Pc.cells l)] (fun b : {b : Bool // b = true → l.length ≤ 60 ∧ ∀ p ∈ l, p.sm} => .bool b.1) (fun _ => []) (fun _ => []) := by
 refine tri_of_body Tryz.func27 rfl rfl Tryz.ntmps27 rfl fun v0 => ?_
 refine run_seq (run_region (ops_val (yld_assign rfl) rfl (ops_nil (fin_next rfl (run_seq (run_seq (run_region ?_)))))))
 refine ops_val (yld_move rfl) rfl (ops_val (yld_lenS Tryz.runUnderlying25 rfl) rfl ?_)
 refine ops_valB (yld_gtr rfl rfl) rfl fun r1 hr1 => ?_
 refine ops_nil (fin_next rfl ?_)
 cases r1
 ·
  replace hr1 := of_decide_eq_false hr1
  refine run_cond_f rfl (run_skip (fin_next rfl (run_seq (run_seq (run_region (ops_val (yld_assign rfl) rfl (ops_nil ?_)))))))
  refine fin_next rfl (run_block (ok_fr [(0, .slice ad (List.length l) cap), (3, .int .i64 ((0 : Nat) : Int))] ⟨rfl, rfl, trivial⟩ ?_))
  refine run_loop (ι := {z : Nat // z ≤ l.length ∧ ∀ p ∈ l.take z, p.sm}) (fun zz => [(0, .slice ad (List.length l) cap), (3, .int .i64 (zz.1 : Int))]) (fun _ => _) (fun _ => _) (fun zz => l.length - zz.1) ⟨0, by simp⟩ ?_
  rintro ⟨i, hk⟩
  refine ok_fr [(0, .slice ad (List.length l) cap), (3, .int .i64 (i : Int))] ⟨rfl, rfl, trivial⟩ ?_
  refine run_seq (run_seq (run_region (ops_val (yld_move rfl) rfl (ops_val (yld_move rfl) rfl (ops_val (yld_lenS Tryz.runUnderlying25 rfl) rfl ?_)))))
  refine ops_valB (yld_lss rfl rfl) rfl fun r2 hr2 => ?_
  refine ops_nil (fin_next rfl ?_)
  cases r2
  ·
   replace hr2 := of_decide_eq_false hr2
   refine run_cond_f rfl (run_exit rfl (fin_next rfl (run_seq (run_region (ops_val (yld_assign rfl) rfl (ops_nil (fin_next rfl ?_)))))))
   refine run_ret ?_
   exact ret1 Tryz.results27 ⟨true, fun _ => ⟨by omega, fun p hp => hk.2 p (by rw [List.take_of_length_le (by omega)]; exact hp)⟩⟩ rfl pf_nil (fun _ _ _ => trivial)
  ·
   replace hr2 := of_decide_eq_true hr2
   have hlx1 : i < List.length l := by omega
   obtain ⟨x1, hx1⟩ : ∃ e0, l[i]? = some e0 := ⟨_, List.getElem?_eq_getElem hlx1⟩
   have hmx1 : x1 ∈ l := List.mem_of_getElem? hx1
   obtain ⟨q1, q2, q3, q4, q5, q6⟩ := hbig x1 hmx1
   refine run_cond_t rfl (run_skip (fin_next rfl (run_seq (run_block (run_seq ?_)))))
   refine run_draw' (by kernel_rfl) ?_
   refine any_sq 0 [0, 1, 2, 3, 4, 5, 6, 7, 8, 9, 10, 11, 12, 13, 14, 15, 16, 17, 18, 19, 20, 21, 22, 23, 24, 25, 26, 27, 28, 29, 30, 31, 32, 33, 34, 35, 36, 37, 38, 39, 40, 41] (by kernel_rfl) (fun _ a b => ⟨satNil a, b⟩) ?_
   refine sq_val rfl (yld_move rfl) rfl ?_
   refine sq_val rfl (yld_move rfl) rfl ?_
   refine sq_val rfl (yld_indexR Tryz.runUnderlying25 Tryz.sizeOf31 rfl rfl (fun v _ h => row_adr (n := 10) Pc.cells_len (by decide) (by exact h.1) hx1) (by omega) (by first | omega | (simp; done))) rfl ?_
   refine sq_val rfl (yld_fieldR Tryz.runUnderlying31 rfl rfl rfl Tryz.sizeOf9) rfl ?_
   refine sq_val rfl (yld_loadR (ad := ad) Tryz.isAgg9 rfl (fun v _ h => by exact h.1) (row_cells Pc.cells_len hx1 1 _ rfl)) rfl ?_
   refine sq_val rfl (yld_lenT Tryz.runUnderlying9 rfl) rfl ?_
   refine sq_val rfl (yld_move rfl) rfl ?_
   refine sq_val rfl (yld_move rfl) rfl ?_
   refine sq_val rfl (yld_indexR Tryz.runUnderlying25 Tryz.sizeOf31 rfl rfl (fun v _ h => row_adr (n := 10) Pc.cells_len (by decide) (by exact h.1) hx1) (by omega) (by first | omega | (simp; done))) rfl ?_
   refine sq_val rfl (yld_fieldR Tryz.runUnderlying31 rfl rfl rfl Tryz.sizeOf9) rfl ?_
   refine sq_val rfl (yld_loadR (ad := ad) Tryz.isAgg9 rfl (fun v _ h => by exact h.1) (row_cells Pc.cells_len hx1 2 _ rfl)) rfl ?_
   refine sq_val rfl (yld_lenT Tryz.runUnderlying9 rfl) rfl ?_
   refine sq_val rfl (yld_arith rfl rfl rfl (wrap64 (by omega) (by omega))) rfl ?_
   refine sq_val rfl (yld_move rfl) rfl ?_
   refine sq_val rfl (yld_move rfl) rfl ?_
   refine sq_val rfl (yld_indexR Tryz.runUnderlying25 Tryz.sizeOf31 rfl rfl (fun v _ h => row_adr (n := 10) Pc.cells_len (by decide) (by exact h.1) hx1) (by omega) (by first | omega | (simp; done))) rfl ?_
   refine sq_val rfl (yld_fieldR Tryz.runUnderlying31 rfl rfl rfl Tryz.sizeOf9) rfl ?_
   refine sq_val rfl (yld_loadR (ad := ad) Tryz.isAgg9 rfl (fun v _ h => by exact h.1) (row_cells Pc.cells_len hx1 3 _ rfl)) rfl ?_
   refine sq_val rfl (yld_lenT Tryz.runUnderlying9 rfl) rfl ?_
   refine sq_val rfl (yld_arith rfl rfl rfl (wrap64 (by omega) (by omega))) rfl ?_
   refine sq_val rfl (yld_move rfl) rfl ?_
   refine sq_val rfl (yld_move rfl) rfl ?_
   refine sq_val rfl (yld_indexR Tryz.runUnderlying25 Tryz.sizeOf31 rfl rfl (fun v _ h => row_adr (n := 10) Pc.cells_len (by decide) (by exact h.1) hx1) (by omega) (by first | omega | (simp; done))) rfl ?_
   refine sq_val rfl (yld_fieldR Tryz.runUnderlying31 rfl rfl rfl Tryz.sizeOf9) rfl ?_
   refine sq_val rfl (yld_loadR (ad := ad) Tryz.isAgg9 rfl (fun v _ h => by exact h.1) (row_cells Pc.cells_len hx1 4 _ rfl)) rfl ?_
   refine sq_val rfl (yld_lenT Tryz.runUnderlying9 rfl) rfl ?_
   refine sq_val rfl (yld_arith rfl rfl rfl (wrap64 (by omega) (by omega))) rfl ?_
   refine sq_val rfl (yld_move rfl) rfl ?_
   refine sq_val rfl (yld_move rfl) rfl ?_
   refine sq_val rfl (yld_indexR Tryz.runUnderlying25 Tryz.sizeOf31 rfl rfl (fun v _ h => row_adr (n := 10) Pc.cells_len (by decide) (by exact h.1) hx1) (by omega) (by first | omega | (simp; done))) rfl ?_
   refine sq_val rfl (yld_fieldR Tryz.runUnderlying31 rfl rfl rfl Tryz.sizeOf9) rfl ?_
   refine sq_val rfl (yld_loadR (ad := ad) Tryz.isAgg9 rfl (fun v _ h => by exact h.1) (row_cells Pc.cells_len hx1 5 _ rfl)) rfl ?_
   refine sq_val rfl (yld_lenT Tryz.runUnderlying9 rfl) rfl ?_
   refine sq_val rfl (yld_arith rfl rfl rfl (wrap64 (by omega) (by omega))) rfl ?_
   refine sq_val rfl (yld_move rfl) rfl ?_
   refine sq_val rfl (yld_move rfl) rfl ?_
   refine sq_val rfl (yld_indexR Tryz.runUnderlying25 Tryz.sizeOf31 rfl rfl (fun v _ h => row_adr (n := 10) Pc.cells_len (by decide) (by exact h.1) hx1) (by omega) (by first | omega | (simp; done))) rfl ?_
   refine sq_val rfl (yld_fieldR Tryz.runUnderlying31 rfl rfl rfl Tryz.sizeOf9) rfl ?_
   refine sq_val rfl (yld_loadR (ad := ad) Tryz.isAgg9 rfl (fun v _ h => by exact h.1) (row_cells Pc.cells_len hx1 6 _ rfl)) rfl ?_
   refine sq_val rfl (yld_lenT Tryz.runUnderlying9 rfl) rfl ?_
   refine sq_val rfl (yld_arith rfl rfl rfl (wrap64 (by omega) (by omega))) rfl ?_
   refine sq_valB rfl (yld_gtr rfl rfl) rfl fun r3 hr3 => ?_
   refine sq_nil ?_
   refine any_done (by kernel_rfl) ?_
   refine fin_next rfl ?_
   cases r3
   ·
    replace hr3 := of_decide_eq_false hr3
    refine run_cond_f rfl (run_skip (fin_next rfl (run_region (ops_val (yld_move rfl) rfl (ops_val (yld_arith rfl rfl rfl (wrap64 (by omega) (by omega))) rfl ?_)))))
    refine ops_val (yld_assign rfl) rfl (ops_nil (fin_inv rfl ?_))
    exact ok_again ⟨i + 1, hlx1, fun p hp => by rw [List.take_add_one, hx1] at hp; simp only [Option.toList_some, List.mem_append, List.mem_singleton] at hp; rcases hp with hp | rfl; exact hk.2 p hp; exact ⟨by omega, by omega, by omega, by omega, by omega, by omega⟩⟩ (by dsimp only; omega) ⟨rfl, rfl, trivial⟩ (.refl _) (fun _ _ h => h)
   ·
    replace hr3 := of_decide_eq_true hr3
    refine run_cond_t rfl (run_seq (run_region (ops_val (yld_assign rfl) rfl (ops_nil (fin_next rfl (run_ret ?_))))))
    exact ret1 Tryz.results27 ⟨false, fun h => by cases h⟩ rfl pf_nil (fun _ _ _ => trivial)
 ·
  replace hr1 := of_decide_eq_true hr1
  refine run_cond_t rfl (run_seq (run_region (ops_val (yld_assign rfl) rfl (ops_nil (fin_next rfl (run_ret ?_))))))
  exact ret1 Tryz.results27 ⟨false, fun h => by cases h⟩ rfl pf_nil (fun _ _ _ => trivial)

theorem of_c (l : List Pc) (ad : Option Addr) (cap : Nat) (a : Int) (hl : l.length ≤ 100000000000) : Tri Tryz.prog 33 #[.slice ad (List.length l) cap, .int .i64 a] [] [rowF ad (List.flatMap Pc.cells l)] (fun y : {y : Option Addr × Nat // (ofs a 0 l).length ≤ y.2 ∧ y.2 ≤ maxLen} => .slice y.1.1 (ofs a 0 l).length y.1.2) (fun _ => []) (fun y => [rowF y.1.1 ((ofs a 0 l).flatMap intC)]) := by
 refine tri_of_body Tryz.func33 rfl rfl Tryz.ntmps33 rfl fun v0 => ?_
 refine run_seq (run_region (ops_val (yld_assign rfl) rfl (ops_nil (fin_next rfl (run_seq (run_seq (run_region ?_)))))))
 refine ops_val (yld_move rfl) rfl (ops_val (yld_lenS Tryz.runUnderlying25 rfl) rfl ?_)
 refine ops_val (yld_move rfl) rfl (ops_nil (fin_next rfl (run_block (ok_fr [(1, .int .i64 a), (4, .slice none 0 0), (7, .slice ad (List.length l) cap), (8, .int .i64 (List.length l : Int)), (9, .int .i64 ((0 : Nat) : Int))] ⟨rfl, rfl, rfl, rfl, rfl, trivial⟩ ?_))))
 refine run_loop (ι := {y : Nat × Value × Hp // y.1 ≤ l.length ∧ SRow 3 1 y.2.1 (ofs a 0 (l.take y.1)).length ((ofs a 0 (l.take y.1)).flatMap intC) y.2.2}) (fun y => [(1, .int .i64 a), (4, y.1.2.1), (7, .slice ad (List.length l) cap), (8, .int .i64 (List.length l : Int)), (9, .int .i64 (y.1.1 : Int))]) (fun y => y.1.2.2) (fun _ => _) (fun y => l.length - y.1.1) ⟨(0, .slice none 0 0, []), by simp, SRow.nil _ _⟩ ?_
 rintro ⟨⟨i, sv, Hr⟩, hi, hrow⟩
 dsimp only at hi hrow
 dsimp only
 have hol := ofs_len a (l.take i) 0
 rw [List.length_take] at hol
 refine ok_fr [(1, .int .i64 a), (4, sv), (7, .slice ad (List.length l) cap), (8, .int .i64 (List.length l : Int)), (9, .int .i64 (i : Int))] ⟨rfl, rfl, rfl, rfl, rfl, trivial⟩ ?_
 refine run_seq (run_region (ops_valB (yld_lss rfl rfl) rfl fun r1 hr1 => ?_))
 refine ops_nil (fin_next rfl (run_seq ?_))
 cases r1
 ·
  replace hr1 := of_decide_eq_false hr1
  refine run_cond_f rfl (run_exit rfl (fin_next rfl (run_seq (run_region (ops_val (yld_move rfl) rfl (ops_val (yld_assign rfl) rfl (ops_nil ?_)))))))
  refine fin_next rfl (run_ret ?_)
  have et : l.take i = l := List.take_of_length_le (by omega)
  rw [et] at hrow
  refine ok_giveRow hrow pf_end fun ad2 cp2 hsv hc1 hc2 => ?_
  exact ret1 Tryz.results33 ⟨(ad2, cp2), hc1, hc2⟩ (get_val rfl hsv) pf_nil (fun v _ h => ⟨h.1, trivial⟩)
 ·
  replace hr1 := of_decide_eq_true hr1
  have hlx1 : i < List.length l := by omega
  obtain ⟨x1, hx1⟩ : ∃ e0, l[i]? = some e0 := ⟨_, List.getElem?_eq_getElem hlx1⟩
  have hmx1 : x1 ∈ l := List.mem_of_getElem? hx1
  refine run_cond_t rfl (run_skip (fin_next rfl (run_seq (run_block (run_seq (run_region (ops_val (yld_move rfl) rfl ?_)))))))
  refine ops_val (yld_indexR Tryz.runUnderlying25 Tryz.sizeOf31 rfl rfl (fun v _ h => row_adr (n := 10) Pc.cells_len (by decide) (by exact h.1) hx1) (by omega) (by first | omega | (simp; done))) rfl ?_
  refine ops_val (yld_loadRS (ad := ad) (us := Pc.cells x1) Tryz.isAgg31 Tryz.sizeOf31 rfl (fun v _ h => by exact h.1) (Pc.cells_len _) (row_cells Pc.cells_len hx1)) rfl ?_
  refine ops_alloc Tryz.zeroValue31 rfl fun b1 => ?_
  refine ops_val (yld_assign rfl) rfl (ops_store 0 Tryz.sizeOf31 rfl rfl rfl rfl rfl rfl ?_)
  refine ops_nil (fin_next rfl (run_seq (run_region (ops_val (yld_field Tryz.runUnderlying31 rfl rfl rfl Tryz.sizeOf3) rfl ?_))))
  refine ops_val (yld_load 0 Tryz.isAgg3 rfl rfl rfl) rfl ?_
  refine ops_val (yld_move rfl) rfl (ops_valB (yld_eql rfl rfl) rfl fun r2 hr2 => ?_)
  refine ops_nil (fin_next rfl ?_)
  cases r2
  ·
   replace hr2 := ne_of_beq_false hr2
   refine run_cond_f rfl (run_skip (fin_next rfl (run_region (ops_val (yld_arith rfl rfl rfl (wrap64 (by omega) (by omega))) rfl ?_))))
   refine ops_val (yld_move rfl) rfl (ops_nil (fin_inv rfl ?_))
   have hst := ofs_step a hx1
   rw [if_neg (by assumption)] at hst
   exact ok_again ⟨(i + 1, sv, Hr), hlx1, by dsimp only; rw [hst, List.append_nil]; exact hrow⟩ (by dsimp only; omega) ⟨rfl, rfl, rfl, rfl, rfl, trivial⟩ (pf_cons pf_end) (fun _ _ h => h)
  ·
   replace hr2 := eq_of_beq hr2
   refine run_cond_t rfl (run_region (ops_val (yld_move rfl) rfl (ops_val (yld_move rfl) rfl (ops_slit Tryz.runUnderlying62 Tryz.sizeOf3 Tryz.zeroValue3 rfl rfl rfl rfl rfl rfl fun b2 => ?_))))
   refine ops_append (news := [.int .i64 (i : Int)]) eltI hrow rfl rfl (pf_cons (pf_cons pf_end)) rfl (own_news 0 rfl) (one_all rfl) (by simp only [maxLen]; omega) (by omega) rfl fun sv2 Hr2 hrow2 => ?_
   refine ok_perm (@List.perm_append_comm _ _ [_, _]) ?_
   refine ops_val (yld_assign rfl) rfl (ops_nil (fin_next rfl (run_region (ops_val (yld_arith rfl rfl rfl (wrap64 (by omega) (by omega))) rfl ?_))))
   refine ops_val (yld_move rfl) rfl (ops_nil (fin_inv rfl ?_))
   have hst := ofs_step a hx1
   rw [if_pos (by assumption)] at hst
   exact ok_again ⟨(i + 1, sv2, Hr2), hlx1, by dsimp only; rw [hst, List.length_append, List.flatMap_append]; exact hrow2⟩ (by dsimp only; omega) ⟨rfl, rfl, rfl, rfl, rfl, trivial⟩ (pf_cons (pf_cons pf_end)) (fun _ _ h => h)

theorem holds_row {g n cap : Nat} {cur : Array Value} {xs : List Str} {v : Vw} (hs : v.sat [(g, .cells cur 9 (0, 0))]) (ht : cur.toList.take (xs.length * 1) = xs.flatMap strC) : Sort.Holds encStr v.w g 0 xs.toArray := by
  intro j hj
  have hb := (hs.own _ List.mem_cons_self).1
  simp only [List.size_toArray] at hj
  have hc : cur[j]? = some (str xs[j]) := take_strs ht j xs[j] (List.getElem?_eq_getElem hj)
  refine ⟨?_, ?_⟩
  · simp only [World.cell?, Nat.zero_add, hb, Option.isSome_none, Bool.false_eq_true, if_false]
    rw [hc, getElem!_pos xs.toArray j (by simpa using hj)]
    rfl
  · simp [World.frozen?, hb]
/-- a row of strings is sorted -/
theorem sortS_c {sv : Value} {xs : List Str} {Hr : Hp} (h : SRow 9 1 sv xs.length (xs.flatMap strC) Hr) (hl : xs.length ≤ 1000000000000) :
    Tri Tryz.prog 68 #[sv] Hr [] (fun _ : {y : Hp // SRow 9 1 sv xs.length ((xs.mergeSort fun x y => decide (x ≤ y)).flatMap strC) y} => .tuple #[]) (fun y => y.1) (fun _ => []) := by
  rcases h.2 with ⟨rfl, h2, rfl⟩ | ⟨g, cap, cur, rfl, rfl, h3, h4, h5, h6⟩
  · obtain rfl : xs = [] := List.eq_nil_of_length_eq_zero h2
    have T := tri_of_calls (P := Tryz.prog) (H := []) (Γ := []) (callable Tryz.func68 rfl rfl) (fun v _ _ => (Tryz.slices_Sort_string_none none 0 v.w).mono (by rintro e w' ⟨rfl, rfl⟩; exact ⟨rfl, ⟨rfl, rfl, rfl, Nat.le_refl _, fun _ _ => rfl⟩⟩))
    exact ⟨T.callable, fun v a b => (T.run v a b).mono (by rintro e w' ⟨x, v', e1, e2, e3, e4, e5⟩; exact ⟨⟨[], by simpa using SRow.nil _ _⟩, v', e1, e2, e3, e4, e5⟩)⟩
  · have T := tri_of_put (P := Tryz.prog) (Γ := []) (d := (xs.mergeSort fun x y => decide (x ≤ y)).toArray) (callable Tryz.func68 rfl rfl) (fun v hs => Tryz.slices_Sort_string g 0 cap xs v.w (holds_row (n := 0) (cap := 0) hs h6) (Array.getElem?_eq_some_iff.1 (hs.own _ List.mem_cons_self).1).1 (by omega))
    have hsz : (xs.mergeSort fun x y => decide (x ≤ y)).length = xs.length := List.length_mergeSort _
    refine ⟨T.callable, fun v a b => (T.run v a b).mono ?_⟩
    rintro e w' ⟨x, v', e1, e2, e3, e4, e5⟩
    refine ⟨⟨_, by rw [fm_len strC 1 strC_len, hsz], .inr ⟨g, cap, _, rfl, rfl, h3, h4, by rw [put_size]; exact h5, ?_⟩⟩, v', e1, e2, e3, e4, e5⟩
    have := put_take (cur := cur) (d := xs.mergeSort fun x y => decide (x ≤ y)) (by rw [hsz, h5]; omega)
    rw [hsz] at this
    rw [Nat.mul_one]; exact this
/-- runs of equal ones are struck -/
theorem compactS_c {sv : Value} {xs : List Str} {Hr : Hp} (h : SRow 9 1 sv xs.length (xs.flatMap strC) Hr) (hl : xs.length ≤ 1000000000000) :
    Tri Tryz.prog 69 #[sv] Hr [] (fun y : {y : Value × Hp // SRow 9 1 y.1 (Lib.compact xs).length ((Lib.compact xs).flatMap strC) y.2} => y.1.1) (fun y => y.1.2) (fun _ => []) := by
  rcases h.2 with ⟨rfl, h2, rfl⟩ | ⟨g, cap, cur, rfl, rfl, h3, h4, h5, h6⟩
  · obtain rfl : xs = [] := List.eq_nil_of_length_eq_zero h2
    have T := tri_of_calls (P := Tryz.prog) (H := []) (Γ := []) (callable Tryz.func69 rfl rfl) (fun v _ _ => (Tryz.slices_Compact_string_empty none 0 v.w).mono (by rintro e w' ⟨rfl, rfl⟩; exact ⟨rfl, ⟨rfl, rfl, rfl, Nat.le_refl _, fun _ _ => rfl⟩⟩))
    exact ⟨T.callable, fun v a b => (T.run v a b).mono (by rintro e w' ⟨x, v', e1, e2, e3, e4, e5⟩; exact ⟨⟨(.slice none 0 0, []), by simpa [Lib.compact, Lib.compactUpTo] using SRow.nil _ _⟩, v', e1, e2, e3, e4, e5⟩)⟩
  · have hcl := compact_len xs
    have T := tri_of_put (P := Tryz.prog) (Γ := []) (r := .slice (some ⟨g, 0, none⟩) (Lib.compact xs).length cap) (d := (Lib.compact xs ++ List.replicate (xs.length - (Lib.compact xs).length) []).toArray) (callable Tryz.func69 rfl rfl) (fun v hs => (Tryz.slices_Compact_string g 0 cap xs v.w (holds_row (n := 0) (cap := 0) hs h6) (by omega) h3).mono (by
      rintro e w' ⟨rfl, q, rfl⟩
      exact ⟨rfl, q, #[], by rw [Sort.grow_empty]⟩))
    refine ⟨T.callable, fun v a b => (T.run v a b).mono ?_⟩
    rintro e w' ⟨x, v', e1, e2, e3, e4, e5⟩
    refine ⟨⟨(.slice (some ⟨g, 0, none⟩) (Lib.compact xs).length cap, _), by rw [fm_len strC 1 strC_len], .inr ⟨g, cap, _, rfl, rfl, by omega, h4, by rw [put_size]; exact h5, ?_⟩⟩, v', e1, e2, e3, e4, e5⟩
    have hd : (Lib.compact xs ++ List.replicate (xs.length - (Lib.compact xs).length) ([] : Str)).length = xs.length := by simp; omega
    have := put_take (cur := cur) (d := Lib.compact xs ++ List.replicate (xs.length - (Lib.compact xs).length) []) (by rw [hd, h5]; omega)
    rw [hd] at this
    have h7 := congrArg (List.take (Lib.compact xs).length) this
    rw [List.take_take, Nat.min_eq_left hcl, List.flatMap_append, List.take_append_of_le_length (by rw [fm_len strC 1 strC_len]; omega), List.take_of_length_le (l := (Lib.compact xs).flatMap strC) (by rw [fm_len strC 1 strC_len]; omega)] at h7
    rw [Nat.mul_one]; exact h7

theorem atoms_c (l : List Pc) (ad : Option Addr) (cap : Nat) (hl : l.length ≤ 100000000000) : Tri Tryz.prog 30 #[.slice ad (List.length l) cap] [] [rowF ad (List.flatMap Pc.cells l)] (fun y : {y : Option Addr × Nat // (atomsL l).length ≤ y.2 ∧ y.2 ≤ maxLen} => .slice y.1.1 (atomsL l).length y.1.2) (fun _ => []) (fun y => [rowF y.1.1 ((atomsL l).flatMap strC)]) := by
 refine tri_of_body Tryz.func30 rfl rfl Tryz.ntmps30 rfl fun v0 => ?_
 refine run_seq (run_region (ops_val (yld_assign rfl) rfl (ops_nil (fin_next rfl (run_seq (run_seq (run_region ?_)))))))
 refine ops_val (yld_move rfl) rfl (ops_val (yld_lenS Tryz.runUnderlying25 rfl) rfl ?_)
 refine ops_val (yld_move rfl) rfl (ops_nil (fin_next rfl (run_block (ok_fr [(2, .slice none 0 0), (7, .slice ad (List.length l) cap), (8, .int .i64 (List.length l : Int)), (9, .int .i64 ((0 : Nat) : Int))] ⟨rfl, rfl, rfl, rfl, trivial⟩ ?_))))
 refine run_loop (ι := {y : Nat × Value × Hp // y.1 ≤ l.length ∧ SRow 9 1 y.2.1 (atomsR (l.take y.1)).length ((atomsR (l.take y.1)).flatMap strC) y.2.2}) (fun y => [(2, y.1.2.1), (7, .slice ad (List.length l) cap), (8, .int .i64 (List.length l : Int)), (9, .int .i64 (y.1.1 : Int))]) (fun y => y.1.2.2) (fun _ => _) (fun y => l.length - y.1.1) ⟨(0, .slice none 0 0, []), by simp, SRow.nil _ _⟩ ?_
 rintro ⟨⟨i, sv, Hr⟩, hi, hrow⟩
 dsimp only at hi hrow
 dsimp only
 have hol := atomsR_len (l.take i)
 rw [List.length_take] at hol
 refine ok_fr [(2, sv), (7, .slice ad (List.length l) cap), (8, .int .i64 (List.length l : Int)), (9, .int .i64 (i : Int))] ⟨rfl, rfl, rfl, rfl, trivial⟩ ?_
 refine run_seq (run_region (ops_valB (yld_lss rfl rfl) rfl fun r1 hr1 => ?_))
 refine ops_nil (fin_next rfl (run_seq ?_))
 cases r1
 ·
  replace hr1 := of_decide_eq_false hr1
  refine run_cond_f rfl (run_exit rfl (fin_next rfl (run_seq ?_)))
  have et : l.take i = l := List.take_of_length_le (by omega)
  rw [et] at hrow hol
  refine run_region (ops_val (yld_move rfl) rfl (ops_call (sortS_c hrow (by omega)) rfl pf_end (fun _ _ _ => by exact trivial) rfl fun ⟨Hs, hs⟩ => ?_))
  dsimp only
  refine ok_perm (List.Perm.symm pf_end) ?_
  have hs2 : SRow 9 1 sv ((atomsR l).mergeSort fun x y => decide (x ≤ y)).length (((atomsR l).mergeSort fun x y => decide (x ≤ y)).flatMap strC) Hs := by rw [List.length_mergeSort]; exact hs
  refine ops_nil (fin_next rfl (run_seq (run_region (ops_val (yld_move rfl) rfl (ops_call (compactS_c hs2 (by rw [List.length_mergeSort]; omega)) rfl pf_end (fun _ _ _ => by exact trivial) rfl fun ⟨⟨sc, Hc⟩, hc⟩ => ?_)))))
  dsimp only
  refine ok_perm (List.Perm.symm pf_end) ?_
  refine ops_val (yld_assign rfl) rfl (ops_nil (fin_next rfl (run_ret (ok_giveRow hc pf_end fun ad2 cp2 hsv hc1 hc2 => ?_))))
  exact ret1 Tryz.results30 ⟨(ad2, cp2), hc1, hc2⟩ (get_val rfl hsv) pf_nil (fun v _ h => ⟨h.1, trivial⟩)
 ·
  replace hr1 := of_decide_eq_true hr1
  have hlx1 : i < List.length l := by omega
  obtain ⟨x1, hx1⟩ : ∃ e0, l[i]? = some e0 := ⟨_, List.getElem?_eq_getElem hlx1⟩
  have hmx1 : x1 ∈ l := List.mem_of_getElem? hx1
  refine run_cond_t rfl (run_skip (fin_next rfl (run_seq (run_block (run_seq (run_region (ops_val (yld_indexR Tryz.runUnderlying25 Tryz.sizeOf31 rfl rfl (fun v _ h => row_adr (n := 10) Pc.cells_len (by decide) (by exact h.1) hx1) (by omega) (by first | omega | (simp; done))) rfl ?_)))))))
  refine ops_val (yld_loadRS (ad := ad) (us := Pc.cells x1) Tryz.isAgg31 Tryz.sizeOf31 rfl (fun v _ h => by exact h.1) (Pc.cells_len _) (row_cells Pc.cells_len hx1)) rfl ?_
  refine ops_alloc Tryz.zeroValue31 rfl fun b1 => ?_
  refine ops_store 0 Tryz.sizeOf31 rfl rfl rfl rfl rfl rfl ?_
  refine ops_nil (fin_next rfl (run_seq (run_region (ops_val (yld_field Tryz.runUnderlying31 rfl rfl rfl Tryz.sizeOf9) rfl ?_))))
  refine ops_val (yld_load 0 Tryz.isAgg9 rfl rfl rfl) rfl ?_
  refine ops_val (yld_field Tryz.runUnderlying31 rfl rfl rfl Tryz.sizeOf9) rfl ?_
  refine ops_val (yld_load 0 Tryz.isAgg9 rfl rfl rfl) rfl ?_
  refine ops_val (yld_field Tryz.runUnderlying31 rfl rfl rfl Tryz.sizeOf9) rfl ?_
  refine ops_val (yld_load 0 Tryz.isAgg9 rfl rfl rfl) rfl ?_
  refine ops_slit Tryz.runUnderlying39 Tryz.sizeOf9 Tryz.zeroValue9 rfl rfl rfl rfl rfl rfl fun b2 => ?_
  refine ok_giveR (List.flatMap strC [(Pc.a x1), (Pc.b x1), (Pc.c x1)]) pf_here rfl ?_
  refine ops_val (yld_lenS Tryz.runUnderlying39 rfl) rfl ?_
  refine ops_val (yld_move rfl) rfl (ops_nil (fin_next rfl (run_block (ok_fr [(2, sv), (7, .slice ad (List.length l) cap), (8, .int .i64 (List.length l : Int)), (9, .int .i64 (i : Int)), (19, .slice (some ⟨b2, 0, none⟩) (List.length [(Pc.a x1), (Pc.b x1), (Pc.c x1)]) 3), (20, .int .i64 3), (21, .int .i64 ((0 : Nat) : Int))] ⟨rfl, rfl, rfl, rfl, rfl, rfl, rfl, trivial⟩ ?_))))
  refine run_loop (ι := {y : Nat × Value × Hp // y.1 ≤ 3 ∧ SRow 9 1 y.2.1 (atomsR (l.take i) ++ (List.take y.1 [x1.a, x1.b, x1.c]).filter fun s => !(s == [])).length ((atomsR (l.take i) ++ (List.take y.1 [x1.a, x1.b, x1.c]).filter fun s => !(s == [])).flatMap strC) y.2.2}) (fun y => [(2, y.1.2.1), (7, .slice ad (List.length l) cap), (8, .int .i64 (List.length l : Int)), (9, .int .i64 (i : Int)), (19, .slice (some ⟨b2, 0, none⟩) (List.length [(Pc.a x1), (Pc.b x1), (Pc.c x1)]) 3), (20, .int .i64 3), (21, .int .i64 (y.1.1 : Int))]) (fun y => _ ::  y.1.2.2) (fun _ => _) (fun y => 3 - y.1.1) ⟨(0, sv, Hr), by simp, by simpa using hrow⟩ ?_
  rintro ⟨⟨k, sw, Hw⟩, hk, hkr⟩
  dsimp only at hk hkr
  dsimp only
  have hfl : ((atomsR (l.take i) ++ (List.take k [x1.a, x1.b, x1.c]).filter fun s => !(s == []))).length ≤ (atomsR (l.take i)).length + 3 := by
   have := List.length_filter_le (fun s => !(s == [])) (List.take k [x1.a, x1.b, x1.c])
   simp only [List.length_append, List.length_take, List.length_cons, List.length_nil] at this ⊢
   omega
  refine ok_fr [(2, sw), (7, .slice ad (List.length l) cap), (8, .int .i64 (List.length l : Int)), (9, .int .i64 (i : Int)), (19, .slice (some ⟨b2, 0, none⟩) (List.length [(Pc.a x1), (Pc.b x1), (Pc.c x1)]) 3), (20, .int .i64 3), (21, .int .i64 (k : Int))] ⟨rfl, rfl, rfl, rfl, rfl, rfl, rfl, trivial⟩ ?_
  refine run_seq (run_region (ops_valB (yld_lss rfl rfl) rfl fun r2 hr2 => ?_))
  refine ops_nil (fin_next rfl (run_seq ?_))
  cases r2
  ·
   replace hr2 := of_decide_eq_false hr2
   refine run_cond_f rfl (run_exit rfl (fin_next rfl (run_region (ops_val (yld_arith rfl rfl rfl (wrap64 (by omega) (by omega))) rfl ?_))))
   refine ops_val (yld_move rfl) rfl (ops_nil (fin_inv rfl ?_))
   have hst : atomsR (l.take (i + 1)) = atomsR (l.take i) ++ atoms1 x1 := by unfold atomsR; rw [List.take_add_one, hx1, List.flatMap_append]; simp
   exact ok_again ⟨(i + 1, sw, Hw), hlx1, by dsimp only; rw [hst]; have := hkr; rw [List.take_of_length_le (show [x1.a, x1.b, x1.c].length ≤ k by simp; omega)] at this; exact this⟩ (by dsimp only; omega) ⟨rfl, rfl, rfl, rfl, trivial⟩ (pf_cons pf_end) (fun _ _ h => h.2)
  ·
   replace hr2 := of_decide_eq_true hr2
   have hly1 : k < List.length [(Pc.a x1), (Pc.b x1), (Pc.c x1)] := by simp; omega
   obtain ⟨y1, hy1⟩ : ∃ e0, [(Pc.a x1), (Pc.b x1), (Pc.c x1)][k]? = some e0 := ⟨_, List.getElem?_eq_getElem hly1⟩
   have hmy1 : y1 ∈ [(Pc.a x1), (Pc.b x1), (Pc.c x1)] := List.mem_of_getElem? hy1
   refine run_cond_t rfl (run_skip (fin_next rfl (run_seq (run_block (run_seq (run_region (ops_val (yld_indexR Tryz.runUnderlying39 Tryz.sizeOf9 rfl rfl (fun v _ h => row_adr (n := 1) strC_len (by decide) (by exact h.1) hy1) (by omega) (by first | omega | (simp; done))) rfl ?_)))))))
   refine ops_val (yld_loadR (ad := (some ⟨b2, 0, none⟩)) Tryz.isAgg9 rfl (fun v _ h => by exact h.1) (row_cells strC_len hy1 0 _ rfl)) rfl ?_
   refine ops_val (yld_assign rfl) rfl (ops_nil (fin_next rfl (run_seq (run_region (ops_val (yld_move rfl) rfl (ops_valB (yld_sneq rfl rfl) rfl fun r3 hr3 => ?_))))))
   refine ops_nil (fin_next rfl ?_)
   cases r3
   ·
    replace hr3 := eq_of_bne hr3
    refine run_cond_f rfl (run_skip (fin_next rfl (run_region (ops_val (yld_arith rfl rfl rfl (wrap64 (by omega) (by omega))) rfl ?_))))
    refine ops_val (yld_move rfl) rfl (ops_nil (fin_inv rfl ?_))
    have hst : (atomsR (l.take i) ++ (List.take (k + 1) [x1.a, x1.b, x1.c]).filter fun s => !(s == [])) = (atomsR (l.take i) ++ (List.take k [x1.a, x1.b, x1.c]).filter fun s => !(s == [])) ++ [y1].filter (fun s => !(s == [])) := by rw [List.append_assoc, ← List.filter_append, List.take_add_one, hy1]; simp
    rw [show [y1].filter (fun s => !(s == [])) = [] by simp [*], List.append_nil] at hst
    exact ok_again ⟨(k + 1, sw, Hw), by dsimp only; omega, by dsimp only; rw [hst]; exact hkr⟩ (by dsimp only; omega) ⟨rfl, rfl, rfl, rfl, rfl, rfl, rfl, trivial⟩ (pf_takeB pf_here pf_end) (fun _ _ h => h)
   ·
    replace hr3 := ne_of_bne hr3
    refine run_cond_t rfl (run_region (ops_val (yld_move rfl) rfl (ops_val (yld_move rfl) rfl (ops_slit Tryz.runUnderlying39 Tryz.sizeOf9 Tryz.zeroValue9 rfl rfl rfl rfl rfl rfl fun b3 => ?_))))
    refine ops_append (news := [str y1]) eltS hkr rfl rfl (pf_cons (pf_cons pf_end)) rfl (own_news 0 rfl) (one_all rfl) (by simp only [maxLen]; omega) (by omega) rfl fun sv2 Hr2 hrow2 => ?_
    refine ok_perm (@List.perm_append_comm _ _ [_, _]) ?_
    refine ops_val (yld_assign rfl) rfl (ops_nil (fin_next rfl (run_region (ops_val (yld_arith rfl rfl rfl (wrap64 (by omega) (by omega))) rfl ?_))))
    refine ops_val (yld_move rfl) rfl (ops_nil (fin_inv rfl ?_))
    have hst : (atomsR (l.take i) ++ (List.take (k + 1) [x1.a, x1.b, x1.c]).filter fun s => !(s == [])) = (atomsR (l.take i) ++ (List.take k [x1.a, x1.b, x1.c]).filter fun s => !(s == [])) ++ [y1].filter (fun s => !(s == [])) := by rw [List.append_assoc, ← List.filter_append, List.take_add_one, hy1]; simp
    rw [show [y1].filter (fun s => !(s == [])) = [y1] by simp [*]] at hst
    exact ok_again ⟨(k + 1, sv2, Hr2), by dsimp only; omega, by dsimp only; rw [hst]; rw [List.length_append (bs := [y1]), List.flatMap_append (ys := [y1])]; exact hrow2⟩ (by dsimp only; omega) ⟨rfl, rfl, rfl, rfl, rfl, rfl, rfl, trivial⟩ (pf_takeB (pf_cons pf_here) (pf_cons pf_end)) (fun _ _ h => h)

end Go.Proofs.YtoafjmalfclpoaaGreatDoor

/-
  My own contracts.
-/
namespace Go.Proofs.YtoafjmalfclpoaaGreatDoor
open Go Go.Sx Go.Proofs
set_option linter.unusedVariables false
attribute [local irreducible] Code.wp wpList wpAnyH

open Go.Vs
theorem cmpInt_c (x y : Int) : Fn0 Tryz.prog 115 #[.int .i64 x, .int .i64 y] (.int .i64 (Lib.compareInt x y)) :=
  tri_of_calls (callable Tryz.func115 rfl rfl) fun v _ _ => (Tryz.cmp_Compare_int x y v.w).mono (by rintro e w' ⟨rfl, rfl⟩; exact ⟨rfl, ⟨rfl, rfl, rfl, Nat.le_refl _, fun _ _ => rfl⟩⟩)
theorem cmpStr_c (x y : Str) : Fn0 Tryz.prog 116 #[str x, str y] (.int .i64 (Lib.compareBytes x y)) :=
  tri_of_calls (callable Tryz.func116 rfl rfl) fun v _ _ => (Tryz.strings_Compare ⟨x.toArray⟩ ⟨y.toArray⟩ v.w).mono (by rintro e w' ⟨rfl, rfl⟩; exact ⟨rfl, ⟨rfl, rfl, rfl, Nat.le_refl _, fun _ _ => rfl⟩⟩)

theorem cmpOr_c (l : List Int) (ad : Option Addr) (cap : Nat) (hl : l.length ≤ 1000) : Tri Tryz.prog 114 #[.slice ad (List.length l) cap] [] [rowF ad (List.flatMap intC l)] (fun _ : Unit => .int .i64 (orL l)) (fun _ => []) (fun _ => []) := by
  refine tri_of_body Tryz.func114 rfl rfl Tryz.ntmps114 rfl fun v0 => ?_
  refine run_seq (run_region (ops_val (yld_assign rfl) rfl (ops_nil (fin_next rfl (run_seq (run_region (ops_val (yld_assign rfl) rfl ?_)))))))
  refine ops_nil (fin_next rfl (run_seq (run_seq (run_region (ops_val (yld_move rfl) rfl (ops_val (yld_lenS Tryz.runUnderlying62 rfl) rfl ?_))))))
  refine ops_val (yld_move rfl) rfl (ops_nil (fin_next rfl (run_block (ok_fr [(3, .int .i64 0), (6, .slice ad (List.length l) cap), (7, .int .i64 (List.length l : Int)), (8, .int .i64 ((0 : Nat) : Int))] ⟨rfl, rfl, rfl, rfl, trivial⟩ ?_))))
  refine run_loop (ι := {y : Nat // y ≤ l.length ∧ ∀ z ∈ l.take y, z = 0}) (fun y => [(3, .int .i64 0), (6, .slice ad (List.length l) cap), (7, .int .i64 (List.length l : Int)), (8, .int .i64 (y.1 : Int))]) (fun y => ([])) (fun y => [rowF ad (List.flatMap intC l)]) (fun y => l.length - y.1) ⟨(0 : Nat), by simp, by simp⟩ ?_
  rintro ⟨i, hi, h0⟩
  dsimp only at hi h0 ⊢
  refine ok_fr [(3, .int .i64 0), (6, .slice ad (List.length l) cap), (7, .int .i64 (List.length l : Int)), (8, .int .i64 (i : Int))] ⟨rfl, rfl, rfl, rfl, trivial⟩ ?_
  refine run_seq (run_region (ops_valB (yld_lss rfl rfl) rfl fun r1 hr1 => ?_))
  refine ops_nil (fin_next rfl (run_seq ?_))
  cases r1
  · skip
    replace hr1 := of_decide_eq_false hr1
    refine run_cond_f rfl (run_exit rfl (fin_next rfl (run_seq (run_region (ops_val (yld_move rfl) rfl (ops_val (yld_assign rfl) rfl (ops_nil ?_)))))))
    refine fin_next rfl (run_ret ?_)
    exact ret1 Tryz.results114 () (get_int rfl (orL_zero.2 fun y hy => h0 y (by rw [List.take_of_length_le (by omega)]; exact hy)).symm) pf_nil (fun _ _ _ => trivial)
  · skip
    replace hr1 := of_decide_eq_true hr1
    have hlx1 : i < List.length l := by omega
    obtain ⟨x1, hx1⟩ : ∃ e0, l[i]? = some e0 := ⟨_, List.getElem?_eq_getElem hlx1⟩
    have hmx1 : x1 ∈ l := List.mem_of_getElem? hx1
    refine run_cond_t rfl (run_skip (fin_next rfl (run_seq (run_block (run_seq (run_region (ops_val (yld_indexR Tryz.runUnderlying62 Tryz.sizeOf3 rfl rfl (fun v _ h => row_adr (n := 1) intC_len (by decide) (by exact h.1) hx1) (by omega) (by first | omega | (simp; done))) rfl ?_)))))))
    refine ops_val (yld_loadR (ad := ad) Tryz.isAgg3 rfl (fun v _ h => by exact h.1) (row_cells intC_len hx1 0 _ rfl)) rfl ?_
    refine ops_val (yld_assign rfl) rfl (ops_nil (fin_next rfl (run_seq (run_region (ops_val (yld_move rfl) rfl (ops_val (yld_move rfl) rfl (ops_valB (yld_neq rfl rfl) rfl fun r2 hr2 => ?_)))))))
    refine ops_nil (fin_next rfl ?_)
    cases r2
    · skip
      replace hr2 := eq_of_bne hr2
      refine run_cond_f rfl (run_skip (fin_next rfl (run_region (ops_val (yld_arith rfl rfl rfl (wrap64 (by omega) (by omega))) rfl ?_))))
      refine ops_val (yld_move rfl) rfl (ops_nil (fin_inv rfl ?_))
      exact ok_again ⟨i + 1, hlx1, fun y hy => by rw [List.take_add_one, hx1] at hy; simp only [Option.toList_some, List.mem_append, List.mem_singleton] at hy; rcases hy with hy | rfl; exact h0 y hy; omega⟩ (by dsimp only; omega) ⟨rfl, rfl, rfl, rfl, trivial⟩ pf_nil (fun v _ h => by exact ⟨h.1, trivial⟩)
    · skip
      replace hr2 := ne_of_bne hr2
      refine run_cond_t rfl (run_seq (run_region (ops_val (yld_move rfl) rfl (ops_val (yld_assign rfl) rfl (ops_nil (fin_next rfl (run_ret ?_)))))))
      exact ret1 Tryz.results114 () (get_int rfl (orL_at h0 hx1 (by assumption)).symm) pf_nil (fun _ _ _ => trivial)

end Go.Proofs.YtoafjmalfclpoaaGreatDoor

/-
  My own contracts.
-/
namespace Go.Proofs.YtoafjmalfclpoaaGreatDoor
open Go Go.Sx Go.Proofs
set_option linter.unusedVariables false
attribute [local irreducible] Code.wp wpList wpAnyH

open Go.Vs
theorem strt98 : Strt Tryz.prog 98 [(0, 5), (5, 1), (6, 1)] [.int .i64 0, str [], .int .i64 0, .int .i64 0, .slice none 0 0, .int .i64 0, .slice none 0 0] := ⟨_, Tryz.zeroValue98, Tryz.runUnderlying98, fun w => by simp [Tryz.sizeOf3, Tryz.sizeOf38, Tryz.sizeOf96]⟩

theorem elt_tr : Elt Tryz.prog 96 98 7 96 := eltOf Tryz.underlying96 (z := .agg #[.int .i64 0, str [], .int .i64 0, .int .i64 0, .slice none 0 0, .int .i64 0, .slice none 0 0]) (by kernel_rfl) rfl (by decide)
theorem Tr.cells_one1 : ∀ t : Tr, t.cells.all Value.oneCell' = true := Tr.cells_one

end Go.Proofs.YtoafjmalfclpoaaGreatDoor
namespace Go.Vs
open Go Go.Sx
theorem Con.sz_eqX (c : Con) : c.sz = 1 + Con.sz.szs c.parts := by cases c; simp only [Con.sz, Con.parts]
theorem Con.szs_take_leX (ps : List Con) (i : Nat) : Con.sz.szs (ps.take i) ≤ Con.sz.szs ps := by
  induction ps generalizing i with
  | nil => simp
  | cons p ps ih =>
    cases i with
    | zero => simp [Con.sz.szs]
    | succ i => have := ih i; simp only [List.take_succ_cons, Con.sz.szs]; omega
theorem Con.szs_step {ps : List Con} {p : Con} {i : Nat} (h : ps[i]? = some p) : Con.sz.szs (ps.take (i + 1)) = Con.sz.szs (ps.take i) + p.sz := by
  have key : ∀ xs ys : List Con, Con.sz.szs (xs ++ ys) = Con.sz.szs xs + Con.sz.szs ys := by
    intro xs ys
    induction xs with
    | nil => simp [Con.sz.szs]
    | cons x xs ih => simp only [List.cons_append, Con.sz.szs, ih]; omega
  rw [List.take_add_one, h, Option.toList_some, key]
  simp [Con.sz.szs]
end Go.Vs
namespace Go.Proofs.YtoafjmalfclpoaaGreatDoor
open Go Go.Sx Go.Proofs Go.Vs

theorem grow_c : ∀ (m : Nat) (c : Con), c.sz ≤ m → c.ok → c.sz ≤ 100000 → Tri Tryz.prog 61 #[Con.val c] [] [Con.memF c] (fun y : {t : Tr // Tr.grown c t} => y.1.val) (fun _ => []) (fun y => [Tr.memF y.1]) := by
 intro m
 induction m with
 | zero => intro c h; have := c.sz_pos; omega
 | succ m ih =>
  intro c hm hok hsz
  have hpl := Con.ok_len hok
  refine tri_of_body Tryz.func61 rfl rfl Tryz.ntmps61 rfl fun v0 => ?_
  refine run_seq (run_region (ops_box rfl rfl fun b1 => ?_))
  refine ops_alloc Tryz.zeroValue98 rfl fun b2 => ?_
  refine ops_nil (fin_next rfl (run_seq (run_region (ops_val (yld_loadS 1 Tryz.isAgg38 Tryz.sizeOf38 rfl rfl rfl) rfl ?_))))
  refine ops_val (yld_struct strt98 rfl rfl) rfl ?_
  refine ops_store 0 Tryz.sizeOf98 rfl rfl rfl rfl rfl rfl ?_
  refine ops_nil (fin_next rfl (run_seq (run_seq (run_region (ops_val (yld_field Tryz.runUnderlying38 rfl rfl rfl Tryz.sizeOf36) rfl ?_)))))
  refine ops_val (yld_load 1 Tryz.isAgg36 rfl rfl rfl) rfl ?_
  refine ops_val (yld_lenS Tryz.runUnderlying36 rfl) rfl ?_
  refine ops_val (yld_move rfl) rfl (ops_nil (fin_next rfl (run_block (ok_fr [(2, .pointer (some ⟨b2, 0, none⟩)), (9, .slice (Con.ad c) (List.length (Con.parts c)) (Con.cap c)), (10, .int .i64 (List.length (Con.parts c) : Int)), (11, .int .i64 ((0 : Nat) : Int))] ⟨rfl, rfl, rfl, rfl, trivial⟩ ?_))))
  refine ok_weak (H' := ((b2, .cells #[.int .i64 (Con.kind c), str (Con.name c), .int .i64 (Con.lo c), .int .i64 (Con.hi c), .slice (Con.ad c) (List.length (Con.parts c)) (Con.cap c), .int .i64 (1 : Int), (.slice none 0 0)] 98 (0, 0)) :: [])) (Γ' := [Con.memF c, Tr.memsF ([] : List Tr)]) pf_here (fun v _ h => by exact ⟨h.1, trivial, trivial⟩) ?_
  refine run_loop (ι := {y : Nat × Int × List Tr × Value × Hp // y.1 ≤ c.parts.length ∧ y.2.1 = 1 + (Con.sz.szs (c.parts.take y.1) : Int) ∧ Tr.grown.growns (c.parts.take y.1) y.2.2.1 ∧ SRow 98 7 y.2.2.2.1 (List.length y.2.2.1) (List.flatMap Tr.cells y.2.2.1) y.2.2.2.2}) (fun y => [(2, .pointer (some ⟨b2, 0, none⟩)), (9, .slice (Con.ad c) (List.length (Con.parts c)) (Con.cap c)), (10, .int .i64 (List.length (Con.parts c) : Int)), (11, .int .i64 (y.1.1 : Int))]) (fun y => ((b2, .cells #[.int .i64 (Con.kind c), str (Con.name c), .int .i64 (Con.lo c), .int .i64 (Con.hi c), .slice (Con.ad c) (List.length (Con.parts c)) (Con.cap c), .int .i64 y.1.2.1, y.1.2.2.2.1] 98 (0, 0)) :: y.1.2.2.2.2)) (fun y => [Con.memF c, Tr.memsF y.1.2.2.1]) (fun y => c.parts.length - y.1.1) ⟨((0 : Nat), (1 : Int), ([] : List Tr), (.slice none 0 0), []), by simp, by simp [Con.sz.szs], by simp [Tr.grown.growns], (SRow.nil _ _)⟩ ?_
  rintro ⟨⟨i, n, ts, sv_R, H_R⟩, hi, hn, hg, hr_R⟩
  dsimp only at hi hn hg hr_R ⊢
  refine ok_fr [(2, .pointer (some ⟨b2, 0, none⟩)), (9, .slice (Con.ad c) (List.length (Con.parts c)) (Con.cap c)), (10, .int .i64 (List.length (Con.parts c) : Int)), (11, .int .i64 (i : Int))] ⟨rfl, rfl, rfl, rfl, trivial⟩ ?_
  have htl := Tr.growns_len hg
  rw [List.length_take] at htl
  have hpl2 := Con.szs_len c.parts
  have hsl := Con.szs_take_leX c.parts i
  have hsc := Con.sz_eqX c
  refine run_seq (run_region (ops_valB (yld_lss rfl rfl) rfl fun r1 hr1 => ?_))
  refine ops_nil (fin_next rfl (run_seq ?_))
  cases r1
  ·
   replace hr1 := of_decide_eq_false hr1
   refine run_cond_f rfl (run_exit rfl (fin_next rfl (run_seq (run_region (ops_val (yld_loadS 0 Tryz.isAgg98 Tryz.sizeOf98 rfl rfl rfl) rfl ?_)))))
   refine ops_store 0 Tryz.sizeOf98 rfl rfl rfl rfl rfl (by have q := (srow_one hr_R).2; simp only [Value.cells, List.all_cons, List.all_nil, q, Bool.and_true]; rfl) ?_
   refine ops_nil (fin_next rfl (run_ret (ok_giveRowN hr_R (pf_cons pf_end) fun ad2 cp2 had2 hcad2 hmad2 hzad2 => ?_)))
   subst had2
   have et : c.parts.take i = c.parts := List.take_of_length_le (by omega)
   rw [et] at hg hn
   exact retR ⟨Tr.mk c n ad2 cp2 ts, (Tr.grown_iff _ _).2 ⟨rfl, by show n = _; omega, hg⟩⟩ (fun a v h1 h2 => res_cellS (us := Tr.cells (Tr.mk c n ad2 cp2 ts)) 0 Tryz.results61 Tryz.isAgg98 Tryz.sizeOf98 rfl rfl rfl a v h1 h2) pf_nil (fun v _ h => ⟨(Tr.mem_iff _ _).2 ⟨h.1, h.2.2.1⟩, trivial⟩)
  ·
   replace hr1 := of_decide_eq_true hr1
   have hlx1 : i < List.length (Con.parts c) := by omega
   obtain ⟨x1, hx1⟩ : ∃ e0, (Con.parts c)[i]? = some e0 := ⟨_, List.getElem?_eq_getElem hlx1⟩
   have hmx1 : x1 ∈ (Con.parts c) := List.mem_of_getElem? hx1
   refine run_cond_t rfl (run_skip (fin_next rfl (run_seq (run_block (run_seq (run_region (ops_val (yld_indexR Tryz.runUnderlying36 Tryz.sizeOf38 rfl rfl (fun v _ h => row_adr (n := 5) Con.cells_len (by decide) (by exact ((Con.mem_iff c v).1 h.1).1) hx1) (by omega) (by first | omega | (simp; done))) rfl ?_)))))))
   refine ops_val (yld_loadRS (ad := (Con.ad c)) (us := Con.cells x1) Tryz.isAgg38 Tryz.sizeOf38 rfl (fun v _ h => by exact ((Con.mem_iff c v).1 h.1).1) (Con.cells_len _) (row_cells Con.cells_len hx1)) rfl ?_
   refine ops_alloc Tryz.zeroValue38 rfl fun b3 => ?_
   refine ops_store 0 Tryz.sizeOf38 rfl rfl rfl rfl rfl rfl ?_
   refine ops_nil (fin_next rfl (run_seq (run_region (ops_val (yld_loadS 0 Tryz.isAgg38 Tryz.sizeOf38 rfl rfl rfl) rfl ?_))))
   refine ops_call (ih x1 (by have := Con.sz_part hmx1; omega) (Con.ok_part hok hmx1) (by have := Con.sz_part hmx1; omega)) rfl pf_nil (fun v _ h => by exact ⟨(Con.mem_part (c := c) h.1 hmx1), trivial⟩) rfl fun ⟨t1, hg1⟩ => ?_
   dsimp only
   have hs1 := ((Tr.grown_iff x1 t1).1 hg1).2.1
   have hz1 := Con.sz_part hmx1
   have hss := Con.szs_step hx1
   have hst := Con.szs_take_leX c.parts (i + 1)
   refine ops_alloc Tryz.zeroValue98 rfl fun b4 => ?_
   refine ops_store 0 Tryz.sizeOf98 rfl rfl rfl rfl rfl rfl ?_
   refine ops_nil (fin_next rfl (run_seq (run_region (ops_val (yld_field Tryz.runUnderlying98 rfl rfl rfl Tryz.sizeOf3) rfl ?_))))
   refine ops_val (yld_load 2 Tryz.isAgg3 rfl rfl rfl) rfl ?_
   refine ops_val (yld_field Tryz.runUnderlying98 rfl rfl rfl Tryz.sizeOf3) rfl ?_
   refine ops_val (yld_load 0 Tryz.isAgg3 rfl rfl rfl) rfl ?_
   refine ops_val (yld_arith rfl rfl rfl (wrap64 (by omega) (by omega))) rfl ?_
   refine ops_val (yld_field Tryz.runUnderlying98 rfl rfl rfl Tryz.sizeOf3) rfl ?_
   refine ops_store 2 Tryz.sizeOf3 rfl rfl rfl rfl rfl rfl ?_
   refine ops_nil (fin_next rfl (run_region (ops_val (yld_field Tryz.runUnderlying98 rfl rfl rfl Tryz.sizeOf96) rfl ?_)))
   refine ops_val (yld_load 2 Tryz.isAgg96 rfl rfl rfl) rfl ?_
   refine ops_val (yld_loadS 0 Tryz.isAgg98 Tryz.sizeOf98 rfl rfl rfl) rfl ?_
   refine ops_slit Tryz.runUnderlying96 Tryz.sizeOf98 Tryz.zeroValue98 rfl rfl rfl rfl rfl rfl fun b5 => ?_
   refine ops_append (news := List.flatMap Tr.cells [t1]) elt_tr hr_R rfl rfl (pf_cons (pf_cons (pf_cons (pf_cons pf_end)))) rfl (own_news 0 rfl) (fun u hu => one_rows Tr.cells_one hu) (by simp only [maxLen]; omega) (by omega) rfl fun sv1 Hr1 hr1 => ?_
   refine ok_perm List.perm_append_comm ?_
   have hq1 : SRow 98 7 sv1 (List.length (ts ++ [t1])) (List.flatMap Tr.cells (ts ++ [t1])) Hr1 := by rw [List.length_append, List.flatMap_append]; exact hr1
   refine ops_val (yld_field Tryz.runUnderlying98 rfl rfl rfl Tryz.sizeOf96) rfl ?_
   refine ops_storeRow 3 hq1 Tryz.sizeOf96 rfl rfl rfl rfl ?_
   refine ops_nil (fin_next rfl (run_region (ops_val (yld_arith rfl rfl rfl (wrap64 (by omega) (by omega))) rfl ?_)))
   refine ops_val (yld_move rfl) rfl (ops_nil (fin_inv rfl ?_))
   exact ok_again ⟨(i + 1, (n + Tr.size t1), (ts ++ [t1]), sv1, Hr1), hlx1, by dsimp only; rw [Con.szs_step hx1, hn, hs1]; omega, Tr.growns_step hg hx1 hg1, hq1⟩ (by dsimp only; omega) ⟨rfl, rfl, rfl, rfl, trivial⟩ (pf_takeB (pf_cons (pf_cons (pf_cons pf_here))) (pf_cons (pf_cons (pf_cons pf_end)))) (fun v _ h => by exact ⟨h.2.1, (Tr.mems_snoc h.2.2.1 h.1), trivial⟩)

end Go.Proofs.YtoafjmalfclpoaaGreatDoor
namespace Go.Vs.Con
open Go Go.Sx
theorem sames_len : ∀ {ps qs : List Con}, same.sames ps qs → ps.length = qs.length
  | [], [], _ => rfl
  | _ :: _, _ :: _, h => by simp [sames_len h.2]
  | [], _ :: _, h => h.elim
  | _ :: _, [], h => h.elim
theorem sames_at : ∀ {ps qs : List Con} {i : Nat} {p q : Con}, same.sames ps qs → ps[i]? = some p → qs[i]? = some q → p.same q
  | [], [], _, _, _, _, h, _ => by simp at h
  | _ :: _, _ :: _, 0, _, _, h, h1, h2 => by simp at h1 h2; subst h1; subst h2; exact h.1
  | _ :: _, _ :: _, i + 1, _, _, h, h1, h2 => sames_at h.2 (by simpa using h1) (by simpa using h2)
  | [], _ :: _, _, _, _, h, _, _ => h.elim
  | _ :: _, [], _, _, _, h, _, _ => h.elim
theorem sames_step : ∀ {ps qs : List Con} {i : Nat} {p q : Con}, same.sames (ps.take i) (qs.take i) → ps[i]? = some p → qs[i]? = some q → p.same q → same.sames (ps.take (i + 1)) (qs.take (i + 1))
  | x :: _, y :: _, 0, _, _, _, h1, h2, h3 => by simp at h1 h2; subst h1; subst h2; simpa [same.sames] using h3
  | _ :: _, _ :: _, i + 1, _, _, h, h1, h2, h3 => by
    simp only [List.take_succ_cons] at h ⊢
    exact ⟨h.1, sames_step h.2 (by simpa using h1) (by simpa using h2) h3⟩
  | [], _, _, _, _, _, h, _, _ => by simp at h
  | _ :: _, [], _, _, _, _, _, h, _ => by simp at h
theorem same_sz : ∀ (m : Nat) (c d : Con), c.sz ≤ m → c.same d → c.sz = d.sz
  | 0, c, _, h => by have := c.sz_pos; omega
  | m + 1, c, d, hm => fun h => by
    obtain ⟨_, _, _, _, h5⟩ := (same_iff c d).1 h
    have key : ∀ (ps qs : List Con), (∀ p ∈ ps, p.sz ≤ m) → same.sames ps qs → sz.szs ps = sz.szs qs := by
      intro ps
      induction ps with
      | nil => intro qs _ hq; cases qs with
        | nil => rfl
        | cons q qs => exact hq.elim
      | cons p ps ih =>
        intro qs hp hq
        cases qs with
        | nil => exact hq.elim
        | cons q qs =>
          have e1 := same_sz m p q (hp p (by simp)) hq.1
          have e2 := ih qs (fun x hx => hp x (by simp [hx])) hq.2
          simp only [sz.szs, e1, e2]
    have e := key c.parts d.parts (fun p hp => by have := sz_part hp; omega) h5
    rw [sz_eqX, sz_eqX, e]
end Go.Vs.Con
namespace Go.Proofs.YtoafjmalfclpoaaGreatDoor
open Go Go.Sx Go.Proofs Go.Vs
theorem cmp_five {c d : Con} {t u : Tr} (ht : Tr.grown c t) (hu : Tr.grown d u) : orL [Lib.compareInt t.size u.size, Lib.compareInt t.con.kind u.con.kind, Lib.compareBytes t.con.name u.con.name, Lib.compareInt t.con.lo u.con.lo, Lib.compareInt t.con.hi u.con.hi] = 0 ↔ (c.sz = d.sz ∧ c.kind = d.kind ∧ c.name = d.name ∧ c.lo = d.lo ∧ c.hi = d.hi) := by
  obtain ⟨e1, e2, _⟩ := (Tr.grown_iff c t).1 ht
  obtain ⟨f1, f2, _⟩ := (Tr.grown_iff d u).1 hu
  rw [orL_zero, e1, e2, f1, f2]
  simp only [List.mem_cons, List.not_mem_nil, or_false, forall_eq_or_imp, forall_eq, cmpI_zero, cmpS_zero]
  constructor
  · rintro ⟨h1, h2⟩; exact ⟨by omega, h2⟩
  · rintro ⟨h1, h2⟩; exact ⟨by omega, h2⟩

theorem cmpFunc_c (cs ds : List Con) (ts us : List Tr) (a1 a2 : Option Addr) (c1 c2 : Nat) (hg : Tr.grown.growns cs ts) (hg' : Tr.grown.growns ds us) (hl : ts.length ≤ 100000) (hl' : us.length ≤ 100000) (IH : ∀ c ∈ cs, ∀ d ∈ ds, ∀ (t u : Tr), Tr.grown c t → Tr.grown d u → Tri Tryz.prog 62 #[Tr.val t, Tr.val u] [] [Tr.memF t, Tr.memF u] (fun n : {n : Int // n = 0 ↔ c.same d} => .int .i64 n.1) (fun _ => []) (fun _ => [])) : Tri Tryz.prog 117 #[.slice a1 (List.length ts) c1, .slice a2 (List.length us) c2, .func (.func 62) #[] #[]] [] [rowF a1 (List.flatMap Tr.cells ts), Tr.memsF ts, rowF a2 (List.flatMap Tr.cells us), Tr.memsF us] (fun n : {n : Int // n = 0 ↔ Con.same.sames cs ds} => .int .i64 n.1) (fun _ => []) (fun _ => []) := by
 refine tri_of_body Tryz.func117 rfl rfl Tryz.ntmps117 rfl fun v0 => ?_
 have hgl := Tr.growns_len hg
 have hgl' := Tr.growns_len hg'
 refine run_seq (run_region (ops_val (yld_assign rfl) rfl (ops_nil (fin_next rfl (run_seq (run_seq (run_region ?_)))))))
 refine ops_val (yld_move rfl) rfl (ops_val (yld_lenS Tryz.runUnderlying96 rfl) rfl ?_)
 refine ops_val (yld_move rfl) rfl (ops_nil (fin_next rfl (run_block (ok_fr [(0, .slice a1 (List.length ts) c1), (1, .slice a2 (List.length us) c2), (2, .func (.func 62) #[] #[]), (11, .slice a1 (List.length ts) c1), (12, .int .i64 (List.length ts : Int)), (13, .int .i64 ((0 : Nat) : Int))] ⟨rfl, rfl, rfl, rfl, rfl, rfl, trivial⟩ ?_))))
 refine run_loop (ι := {y : Nat // y ≤ ts.length ∧ y ≤ us.length ∧ Con.same.sames (cs.take y) (ds.take y)}) (fun y => [(0, .slice a1 (List.length ts) c1), (1, .slice a2 (List.length us) c2), (2, .func (.func 62) #[] #[]), (11, .slice a1 (List.length ts) c1), (12, .int .i64 (List.length ts : Int)), (13, .int .i64 (y.1 : Int))]) (fun y => ([])) (fun y => [rowF a1 (List.flatMap Tr.cells ts), Tr.memsF ts, rowF a2 (List.flatMap Tr.cells us), Tr.memsF us]) (fun y => ts.length - y.1) ⟨(0 : Nat), by simp, by simp, by simp [Con.same.sames]⟩ ?_
 rintro ⟨i, hi, hj, hs⟩
 dsimp only at hi hj hs ⊢
 refine ok_fr [(0, .slice a1 (List.length ts) c1), (1, .slice a2 (List.length us) c2), (2, .func (.func 62) #[] #[]), (11, .slice a1 (List.length ts) c1), (12, .int .i64 (List.length ts : Int)), (13, .int .i64 (i : Int))] ⟨rfl, rfl, rfl, rfl, rfl, rfl, trivial⟩ ?_
 refine run_seq (run_region (ops_valB (yld_lss rfl rfl) rfl fun r1 hr1 => ?_))
 refine ops_nil (fin_next rfl (run_seq ?_))
 cases r1
 ·
  replace hr1 := of_decide_eq_false hr1
  refine run_cond_f rfl (run_exit rfl (fin_next rfl (run_seq (run_seq (run_region (ops_val (yld_move rfl) rfl (ops_val (yld_lenS Tryz.runUnderlying96 rfl) rfl ?_)))))))
  refine ops_val (yld_move rfl) rfl (ops_val (yld_lenS Tryz.runUnderlying96 rfl) rfl ?_)
  refine ops_valB (yld_lss rfl rfl) rfl fun r2 hr2 => ?_
  refine ops_nil (fin_next rfl ?_)
  cases r2
  ·
   replace hr2 := of_decide_eq_false hr2
   refine run_cond_f rfl (run_skip (fin_next rfl (run_seq (run_region (ops_val (yld_assign rfl) rfl (ops_nil (fin_next rfl ?_)))))))
   refine run_ret ?_
   exact ret1 Tryz.results117 ⟨0, by refine ⟨fun _ => ?_, fun _ => rfl⟩; rw [List.take_of_length_le (by omega), List.take_of_length_le (by omega)] at hs; exact hs⟩ rfl pf_nil (fun _ _ _ => trivial)
  ·
   replace hr2 := of_decide_eq_true hr2
   refine run_cond_t rfl (run_seq (run_region (ops_val (yld_assign rfl) rfl (ops_nil (fin_next rfl (run_ret ?_))))))
   exact ret1 Tryz.results117 ⟨(-1), by constructor; (intro h; omega); (intro h; have := Con.sames_len h; omega)⟩ rfl pf_nil (fun _ _ _ => trivial)
 ·
  replace hr1 := of_decide_eq_true hr1
  have hlx1 : i < List.length ts := by omega
  obtain ⟨x1, hx1⟩ : ∃ e0, ts[i]? = some e0 := ⟨_, List.getElem?_eq_getElem hlx1⟩
  have hmx1 : x1 ∈ ts := List.mem_of_getElem? hx1
  obtain ⟨p1, hp1, hgp⟩ := Tr.growns_get hg hx1
  refine run_cond_t rfl (run_skip (fin_next rfl (run_seq (run_block (run_seq (run_region (ops_val (yld_move rfl) rfl ?_)))))))
  refine ops_val (yld_indexR Tryz.runUnderlying96 Tryz.sizeOf98 rfl rfl (fun v _ h => row_adr (n := 7) Tr.cells_len (by decide) (by exact h.1) hx1) (by omega) (by first | omega | (simp; done))) rfl ?_
  refine ops_val (yld_loadRS (ad := a1) (us := Tr.cells x1) Tryz.isAgg98 Tryz.sizeOf98 rfl (fun v _ h => by exact h.1) (Tr.cells_len _) (row_cells Tr.cells_len hx1)) rfl ?_
  refine ops_alloc Tryz.zeroValue98 rfl fun b1 => ?_
  refine ops_val (yld_assign rfl) rfl (ops_store 0 Tryz.sizeOf98 rfl rfl rfl rfl rfl rfl ?_)
  refine ops_nil (fin_next rfl (run_seq (run_seq (run_region (ops_val (yld_move rfl) rfl (ops_val (yld_move rfl) rfl (ops_val (yld_lenS Tryz.runUnderlying96 rfl) rfl ?_)))))))
  refine ops_valB (yld_geq rfl rfl) rfl fun r3 hr3 => ?_
  refine ops_nil (fin_next rfl ?_)
  cases r3
  ·
   replace hr3 := of_decide_eq_false hr3
   have hlx2 : i < List.length us := by omega
   obtain ⟨x2, hx2⟩ : ∃ e0, us[i]? = some e0 := ⟨_, List.getElem?_eq_getElem hlx2⟩
   have hmx2 : x2 ∈ us := List.mem_of_getElem? hx2
   obtain ⟨p2, hp2, hgq⟩ := Tr.growns_get hg' hx2
   refine run_cond_f rfl (run_skip (fin_next rfl (run_seq (run_region (ops_val (yld_move rfl) rfl (ops_val (yld_move rfl) rfl (ops_val (yld_indexR Tryz.runUnderlying96 Tryz.sizeOf98 rfl rfl (fun v _ h => row_adr (n := 7) Tr.cells_len (by decide) (by exact h.2.2.1) hx2) (by omega) (by first | omega | (simp; done))) rfl ?_)))))))
   refine ops_val (yld_loadRS (ad := a2) (us := Tr.cells x2) Tryz.isAgg98 Tryz.sizeOf98 rfl (fun v _ h => by exact h.2.2.1) (Tr.cells_len _) (row_cells Tr.cells_len hx2)) rfl ?_
   refine ops_alloc Tryz.zeroValue98 rfl fun b2 => ?_
   refine ops_store 0 Tryz.sizeOf98 rfl rfl rfl rfl rfl rfl ?_
   refine ops_nil (fin_next rfl (run_seq (run_region (ops_val (yld_move rfl) rfl (ops_val (yld_loadS 1 Tryz.isAgg98 Tryz.sizeOf98 rfl rfl rfl) rfl ?_)))))
   refine ops_val (yld_loadS 0 Tryz.isAgg98 Tryz.sizeOf98 rfl rfl rfl) rfl ?_
   refine ops_calld (IH p1 (List.mem_of_getElem? hp1) p2 (List.mem_of_getElem? hp2) x1 x2 hgp hgq) rfl rfl pf_nil (fun v _ h => by exact ⟨((Tr.mems_iff _ _).1 h.2.1 x1 hmx1), ((Tr.mems_iff _ _).1 h.2.2.2.1 x2 hmx2), trivial⟩) rfl fun ⟨n1, hn1⟩ => ?_
   dsimp only
   refine ops_val (yld_assign rfl) rfl (ops_nil (fin_next rfl (run_seq (run_region (ops_val (yld_move rfl) rfl (ops_valB (yld_neq rfl rfl) rfl fun r4 hr4 => ?_))))))
   refine ops_nil (fin_next rfl ?_)
   cases r4
   ·
    replace hr4 := eq_of_bne hr4
    refine run_cond_f rfl (run_skip (fin_next rfl (run_region (ops_val (yld_arith rfl rfl rfl (wrap64 (by omega) (by omega))) rfl ?_))))
    refine ops_val (yld_move rfl) rfl (ops_nil (fin_inv rfl ?_))
    exact ok_again ⟨i + 1, hlx1, hlx2, Con.sames_step hs hp1 hp2 (hn1.1 (by omega))⟩ (by dsimp only; omega) ⟨rfl, rfl, rfl, rfl, rfl, rfl, trivial⟩ pf_nil (fun v _ h => by exact ⟨h.1, h.2.1, h.2.2.1, h.2.2.2.1, trivial⟩)
   ·
    replace hr4 := ne_of_bne hr4
    refine run_cond_t rfl (run_seq (run_region (ops_val (yld_move rfl) rfl (ops_val (yld_assign rfl) rfl (ops_nil (fin_next rfl (run_ret ?_)))))))
    exact ret1 Tryz.results117 ⟨n1, by constructor; (intro h; exact absurd h (by assumption)); (intro h; exact hn1.2 (Con.sames_at h hp1 hp2))⟩ rfl pf_nil (fun _ _ _ => trivial)
  ·
   replace hr3 := of_decide_eq_true hr3
   refine run_cond_t rfl (run_seq (run_region (ops_val (yld_assign rfl) rfl (ops_nil (fin_next rfl (run_ret ?_))))))
   exact ret1 Tryz.results117 ⟨1, by constructor; (intro h; omega); (intro h; have := Con.sames_len h; omega)⟩ rfl pf_nil (fun _ _ _ => trivial)

theorem compare_c : ∀ (m : Nat) (c : Con), c.sz ≤ m → ∀ (d : Con) (t u : Tr), c.sz ≤ 100000 → d.sz ≤ 100000 → Tr.grown c t → Tr.grown d u → Tri Tryz.prog 62 #[Tr.val t, Tr.val u] [] [Tr.memF t, Tr.memF u] (fun n : {n : Int // n = 0 ↔ c.same d} => .int .i64 n.1) (fun _ => []) (fun _ => []) := by
 intro m
 induction m with
 | zero => intro c h; have := c.sz_pos; omega
 | succ m ih =>
  intro c hm d t u hsz hsz' ht hu
  have G1 := (Tr.grown_iff c t).1 ht
  have G2 := (Tr.grown_iff d u).1 hu
  refine tri_of_body Tryz.func62 rfl rfl Tryz.ntmps62 rfl fun v0 => ?_
  refine run_seq (run_region (ops_box rfl rfl fun b1 => ?_))
  refine ops_box rfl rfl fun b2 => ?_
  refine ops_val (yld_assign rfl) rfl (ops_nil (fin_next rfl (run_seq ?_)))
  refine run_draw' (by kernel_rfl) ?_
  refine any_sq 8 [0, 1, 2, 3, 5, 6, 7, 8, 9, 10, 12, 13, 14, 15, 16, 17, 19, 20, 21, 22, 23, 24, 26, 27, 28, 29, 30, 31] (by kernel_rfl) (fun _ a b => ⟨a, b⟩) ?_
  refine sq_val rfl (yld_field Tryz.runUnderlying98 rfl rfl rfl Tryz.sizeOf3) rfl ?_
  refine sq_val rfl (yld_load 1 Tryz.isAgg3 rfl rfl rfl) rfl ?_
  refine sq_val rfl (yld_field Tryz.runUnderlying98 rfl rfl rfl Tryz.sizeOf3) rfl ?_
  refine sq_val rfl (yld_load 0 Tryz.isAgg3 rfl rfl rfl) rfl ?_
  refine sq_val rfl (yld_field Tryz.runUnderlying98 rfl rfl rfl Tryz.sizeOf38) rfl ?_
  refine sq_val rfl (yld_field Tryz.runUnderlying38 rfl rfl rfl Tryz.sizeOf3) rfl ?_
  refine sq_val rfl (yld_load 1 Tryz.isAgg3 rfl rfl rfl) rfl ?_
  refine sq_val rfl (yld_field Tryz.runUnderlying98 rfl rfl rfl Tryz.sizeOf38) rfl ?_
  refine sq_val rfl (yld_field Tryz.runUnderlying38 rfl rfl rfl Tryz.sizeOf3) rfl ?_
  refine sq_val rfl (yld_load 0 Tryz.isAgg3 rfl rfl rfl) rfl ?_
  refine sq_val rfl (yld_field Tryz.runUnderlying98 rfl rfl rfl Tryz.sizeOf38) rfl ?_
  refine sq_val rfl (yld_field Tryz.runUnderlying38 rfl rfl rfl Tryz.sizeOf9) rfl ?_
  refine sq_val rfl (yld_load 1 Tryz.isAgg9 rfl rfl rfl) rfl ?_
  refine sq_val rfl (yld_field Tryz.runUnderlying98 rfl rfl rfl Tryz.sizeOf38) rfl ?_
  refine sq_val rfl (yld_field Tryz.runUnderlying38 rfl rfl rfl Tryz.sizeOf9) rfl ?_
  refine sq_val rfl (yld_load 0 Tryz.isAgg9 rfl rfl rfl) rfl ?_
  refine sq_val rfl (yld_field Tryz.runUnderlying98 rfl rfl rfl Tryz.sizeOf38) rfl ?_
  refine sq_val rfl (yld_field Tryz.runUnderlying38 rfl rfl rfl Tryz.sizeOf3) rfl ?_
  refine sq_val rfl (yld_load 1 Tryz.isAgg3 rfl rfl rfl) rfl ?_
  refine sq_val rfl (yld_field Tryz.runUnderlying98 rfl rfl rfl Tryz.sizeOf38) rfl ?_
  refine sq_val rfl (yld_field Tryz.runUnderlying38 rfl rfl rfl Tryz.sizeOf3) rfl ?_
  refine sq_val rfl (yld_load 0 Tryz.isAgg3 rfl rfl rfl) rfl ?_
  refine sq_val rfl (yld_field Tryz.runUnderlying98 rfl rfl rfl Tryz.sizeOf38) rfl ?_
  refine sq_val rfl (yld_field Tryz.runUnderlying38 rfl rfl rfl Tryz.sizeOf3) rfl ?_
  refine sq_val rfl (yld_load 1 Tryz.isAgg3 rfl rfl rfl) rfl ?_
  refine sq_val rfl (yld_field Tryz.runUnderlying98 rfl rfl rfl Tryz.sizeOf38) rfl ?_
  refine sq_val rfl (yld_field Tryz.runUnderlying38 rfl rfl rfl Tryz.sizeOf3) rfl ?_
  refine sq_val rfl (yld_load 0 Tryz.isAgg3 rfl rfl rfl) rfl ?_
  refine sq_nil ?_
  refine any_one 4 rfl (by kernel_rfl) ?_
  refine ops_call (cmpInt_c (Tr.size t) (Tr.size u)) rfl pf_nil (fun _ _ _ => by exact trivial) rfl fun _ => ?_
  refine ops_nil (fin_inv rfl (any_next (fun _ a b => ⟨a, b⟩) ?_))
  refine any_one 11 rfl (by kernel_rfl) ?_
  refine ops_call (cmpInt_c (Con.kind (Tr.con t)) (Con.kind (Tr.con u))) rfl pf_nil (fun _ _ _ => by exact trivial) rfl fun _ => ?_
  refine ops_nil (fin_inv rfl (any_next (fun _ a b => ⟨a, b⟩) ?_))
  refine any_one 18 rfl (by kernel_rfl) ?_
  refine ops_call (cmpStr_c (Con.name (Tr.con t)) (Con.name (Tr.con u))) rfl pf_nil (fun _ _ _ => by exact trivial) rfl fun _ => ?_
  refine ops_nil (fin_inv rfl (any_next (fun _ a b => ⟨a, b⟩) ?_))
  refine any_one 25 rfl (by kernel_rfl) ?_
  refine ops_call (cmpInt_c (Con.lo (Tr.con t)) (Con.lo (Tr.con u))) rfl pf_nil (fun _ _ _ => by exact trivial) rfl fun _ => ?_
  refine ops_nil (fin_inv rfl (any_next (fun _ a b => ⟨a, b⟩) ?_))
  refine any_one 32 rfl (by kernel_rfl) ?_
  refine ops_call (cmpInt_c (Con.hi (Tr.con t)) (Con.hi (Tr.con u))) rfl pf_nil (fun _ _ _ => by exact trivial) rfl fun _ => ?_
  refine ops_nil (fin_inv rfl (any_next (fun _ a b => ⟨a, b⟩) ?_))
  refine any_one 33 rfl (by kernel_rfl) ?_
  refine ops_slit Tryz.runUnderlying62 Tryz.sizeOf3 Tryz.zeroValue3 rfl rfl rfl rfl rfl rfl fun b3 => ?_
  refine ok_giveR (List.flatMap intC [(Lib.compareInt (Tr.size t) (Tr.size u)), (Lib.compareInt (Con.kind (Tr.con t)) (Con.kind (Tr.con u))), (Lib.compareBytes (Con.name (Tr.con t)) (Con.name (Tr.con u))), (Lib.compareInt (Con.lo (Tr.con t)) (Con.lo (Tr.con u))), (Lib.compareInt (Con.hi (Tr.con t)) (Con.hi (Tr.con u)))]) pf_here rfl ?_
  refine ops_nil (fin_inv rfl (any_next (fun _ a b => ⟨a, b.2⟩) ?_))
  refine any_one 34 rfl (by kernel_rfl) ?_
  refine ops_call (cmpOr_c [(Lib.compareInt (Tr.size t) (Tr.size u)), (Lib.compareInt (Con.kind (Tr.con t)) (Con.kind (Tr.con u))), (Lib.compareBytes (Con.name (Tr.con t)) (Con.name (Tr.con u))), (Lib.compareInt (Con.lo (Tr.con t)) (Con.lo (Tr.con u))), (Lib.compareInt (Con.hi (Tr.con t)) (Con.hi (Tr.con u)))] (some ⟨b3, 0, none⟩) 5 (by simp)) rfl pf_nil (fun v _ h => by exact ⟨h.1, trivial⟩) rfl fun _ => ?_
  refine ops_nil (fin_inv rfl (any_next (fun _ a b => ⟨a, b.2⟩) ?_))
  refine any_sq 0 [35] (by kernel_rfl) (fun _ a b => ⟨a, b.2⟩) ?_
  refine sq_val rfl (yld_assign rfl) rfl ?_
  refine sq_nil ?_
  refine any_done (by kernel_rfl) ?_
  refine fin_next rfl (run_seq (run_seq (run_region (ops_val (yld_move rfl) rfl (ops_valB (yld_neq rfl rfl) rfl fun r1 hr1 => ?_)))))
  refine ops_nil (fin_next rfl ?_)
  cases r1
  ·
   replace hr1 := eq_of_bne hr1
   have F5 := (cmp_five ht hu).1 hr1
   refine run_cond_f rfl (run_skip (fin_next rfl (run_seq (run_region (ops_val (yld_field Tryz.runUnderlying98 rfl rfl rfl Tryz.sizeOf96) rfl ?_)))))
   refine ops_val (yld_load 1 Tryz.isAgg96 rfl rfl rfl) rfl ?_
   refine ops_val (yld_field Tryz.runUnderlying98 rfl rfl rfl Tryz.sizeOf96) rfl ?_
   refine ops_val (yld_load 0 Tryz.isAgg96 rfl rfl rfl) rfl ?_
   refine ops_call (cmpFunc_c c.parts d.parts (Tr.parts t) (Tr.parts u) (Tr.ad t) (Tr.ad u) (Tr.cap t) (Tr.cap u) G1.2.2 G2.2.2 (by have := Tr.growns_len G1.2.2; have := Con.szs_len c.parts; have := Con.sz_eqX c; omega) (by have := Tr.growns_len G2.2.2; have := Con.szs_len d.parts; have := Con.sz_eqX d; omega) (fun x hx y hy p q h1 h2 => ih x (by have := Con.sz_part hx; omega) y p q (by have := Con.sz_part hx; omega) (by have := Con.sz_part hy; omega) h1 h2)) rfl pf_nil (fun v _ h => by exact ⟨((Tr.mem_iff t v).1 h.2.1).1, ((Tr.mem_iff t v).1 h.2.1).2, ((Tr.mem_iff u v).1 h.2.2.1).1, ((Tr.mem_iff u v).1 h.2.2.1).2, trivial⟩) rfl fun ⟨n2, hn2⟩ => ?_
   dsimp only
   refine ops_val (yld_assign rfl) rfl (ops_nil (fin_next rfl (run_ret ?_)))
   exact ret1 Tryz.results62 ⟨n2, by rw [hn2, Con.same_iff]; exact ⟨fun h => ⟨F5.2.1, F5.2.2.1, F5.2.2.2.1, F5.2.2.2.2, h⟩, fun h => h.2.2.2.2⟩⟩ rfl pf_nil (fun _ _ _ => trivial)
  ·
   replace hr1 := ne_of_bne hr1
   refine run_cond_t rfl (run_seq (run_region (ops_val (yld_move rfl) rfl (ops_val (yld_assign rfl) rfl (ops_nil (fin_next rfl (run_ret ?_)))))))
   exact ret1 Tryz.results62 ⟨(orL [(Lib.compareInt (Tr.size t) (Tr.size u)), (Lib.compareInt (Con.kind (Tr.con t)) (Con.kind (Tr.con u))), (Lib.compareBytes (Con.name (Tr.con t)) (Con.name (Tr.con u))), (Lib.compareInt (Con.lo (Tr.con t)) (Con.lo (Tr.con u))), (Lib.compareInt (Con.hi (Tr.con t)) (Con.hi (Tr.con u)))]), by constructor; (intro h; exact absurd h (by assumption)); (intro h; exact (cmp_five ht hu).2 ⟨Con.same_sz _ c d (Nat.le_refl _) h, by have := (Con.same_iff c d).1 h; exact ⟨this.1, this.2.1, this.2.2.1, this.2.2.2.1⟩⟩)⟩ rfl pf_nil (fun _ _ _ => trivial)

end Go.Proofs.YtoafjmalfclpoaaGreatDoor

/-
  My own contracts.
-/
namespace Go.Proofs.YtoafjmalfclpoaaGreatDoor
open Go Go.Sx Go.Proofs
set_option linter.unusedVariables false
attribute [local irreducible] Code.wp wpList wpAnyH

open Go.Vs
theorem compareC_c (c d : Con) (hok : c.ok) (hok' : d.ok) (hz : c.sz ≤ 1000) (hz' : d.sz ≤ 1000) : Tri Tryz.prog 24 #[Con.val c, Con.val d] [] [Con.memF c, Con.memF d] (fun n : {n : Int // n = 0 ↔ c.same d} => .int .i64 n.1) (fun _ => []) (fun _ => []) := by
  refine tri_of_body Tryz.func24 rfl rfl Tryz.ntmps24 rfl fun v0 => ?_
  refine run_seq (run_region (ops_box rfl rfl fun b1 => ?_))
  refine ops_box rfl rfl fun b2 => ?_
  refine ops_val (yld_assign rfl) rfl (ops_nil (fin_next rfl (run_seq ?_)))
  refine run_draw' (by kernel_rfl) ?_
  refine any_sq 4 [0, 2] (by kernel_rfl) (fun _ a b => ⟨a, b⟩) ?_
  refine sq_val rfl (yld_loadS 1 Tryz.isAgg38 Tryz.sizeOf38 rfl rfl rfl) rfl ?_
  refine sq_val rfl (yld_loadS 0 Tryz.isAgg38 Tryz.sizeOf38 rfl rfl rfl) rfl ?_
  refine sq_nil ?_
  refine any_one 1 rfl (by kernel_rfl) ?_
  refine ops_call (grow_c _ c (Nat.le_refl _) hok (by omega)) rfl pf_nil (fun v _ h => by exact ⟨h.1, trivial⟩) rfl fun ⟨t1, ht1⟩ => ?_
  dsimp only
  refine ops_nil (fin_inv rfl (any_next (fun _ a b => ⟨a, b.2⟩) ?_))
  refine any_one 3 rfl (by kernel_rfl) ?_
  refine ops_call (grow_c _ d (Nat.le_refl _) hok' (by omega)) rfl pf_nil (fun v _ h => by exact ⟨h.2.2.1, trivial⟩) rfl fun ⟨t2, ht2⟩ => ?_
  dsimp only
  refine ops_nil (fin_inv rfl (any_next (fun _ a b => ⟨a, b.2.2⟩) ?_))
  refine any_one 4 rfl (by kernel_rfl) ?_
  refine ops_call (compare_c _ c (Nat.le_refl _) d t1 t2 (by omega) (by omega) ht1 ht2) rfl pf_nil (fun v _ h => by exact ⟨h.2.1, h.1, trivial⟩) rfl fun ⟨n1, hn1⟩ => ?_
  dsimp only
  refine ops_nil (fin_inv rfl (any_next (fun _ a b => ⟨a, b.2.2⟩) ?_))
  refine any_sq 0 [5] (by kernel_rfl) (fun _ a b => ⟨a, b.2.2⟩) ?_
  refine sq_val rfl (yld_assign rfl) rfl ?_
  refine sq_nil ?_
  refine any_done (by kernel_rfl) ?_
  refine fin_next rfl (run_ret ?_)
  exact ret1 Tryz.results24 ⟨n1, hn1⟩ rfl pf_nil (fun _ _ _ => trivial)

theorem atoms_agree {c d : Con} (hc : c.check = 0) (hd : d.check = 0) {n : Int} (hn : n = 0 ↔ c.same d) : (Con.atom c == Con.atom d) = (n == 0) := by
  rw [Bool.eq_iff_iff, beq_iff_eq, beq_iff_eq, Con.atom_iff hc hd, hn]
theorem atoms_text {c : Con} (hc : c.check = 0) (hk : c.kind = 5 ∨ c.kind = 6 ∨ c.kind = 7) : Con.atom c = [60] ++ Con.textN c ++ [62] := by
  unfold Con.atom
  rw [if_neg (by omega), if_neg (by omega), if_neg (by omega), if_neg (by omega)]
theorem atoms_txt {c : Con} (hc : c.check = 0) (hk : c.kind = 3 ∨ c.kind = 4) : Con.atom c = Con.textN c := by
  unfold Con.atom Con.textN
  rw [if_neg (by omega), if_neg (by omega), if_pos hc, Con.text_eq]
  rcases hk with k | k <;> simp [k]

theorem normalAtoms_c (c d : Con) (hok : c.ok) (hok' : d.ok) : Tri Tryz.prog 6 #[Con.val c, Con.val d] [] [Con.memF c, Con.memF d, tabs] (fun _ : Unit => .bool true) (fun _ => []) (fun _ => []) := by
 refine tri_of_body Tryz.func6 rfl rfl Tryz.ntmps6 rfl fun v0 => ?_
 refine run_seq (run_region (ops_box rfl rfl fun b1 => ?_))
 refine ops_box rfl rfl fun b2 => ?_
 refine ops_val (yld_assign rfl) rfl (ops_nil (fin_next rfl (run_seq (run_seq (run_region (ops_call (sane_c) rfl pf_nil (fun v _ h => by exact ⟨h.2.2.1, trivial⟩) rfl fun _ => ?_))))))
 refine ops_val (yld_not rfl) rfl ?_
 refine ops_nil (fin_next rfl (run_cond_f rfl (run_skip (fin_next rfl (run_seq (run_seq (run_region ?_)))))))
 refine ops_val (yld_loadS 1 Tryz.isAgg38 Tryz.sizeOf38 rfl rfl rfl) rfl ?_
 refine ops_call (few_c c hok) rfl pf_nil (fun v _ h => by exact ⟨h.1, trivial⟩) rfl fun fb1 => ?_
 refine ops_val (yld_not rfl) rfl ?_
 refine ops_val (yld_move rfl) rfl ?_
 cases fb1
 ·
  refine ops_no rfl rfl rfl rfl (ops_no rfl rfl rfl rfl (ops_no rfl rfl rfl rfl (ops_val (yld_pick_t rfl rfl) rfl ?_)))
  refine ops_nil (fin_next rfl (run_cond_t rfl (run_seq (run_region (ops_val (yld_assign rfl) rfl (ops_nil (fin_next rfl ?_)))))))
  refine run_ret ?_
  exact ret1 Tryz.results6 () rfl pf_nil (fun _ _ _ => trivial)
 ·
  refine ops_yes rfl rfl (ops_val (yld_loadS 0 Tryz.isAgg38 Tryz.sizeOf38 rfl rfl rfl) rfl ?_)
  refine ops_yes rfl rfl (ops_call (few_c d hok') rfl pf_nil (fun v _ h => by exact ⟨h.2.1, trivial⟩) rfl fun fb2 => ?_)
  refine ops_yes rfl rfl (ops_val (yld_not rfl) rfl ?_)
  refine ops_val (yld_pick_f rfl rfl) rfl ?_
  refine ops_nil (fin_next rfl ?_)
  cases fb2
  ·
   refine run_cond_t rfl (run_seq (run_region (ops_val (yld_assign rfl) rfl (ops_nil (fin_next rfl (run_ret ?_))))))
   exact ret1 Tryz.results6 () rfl pf_nil (fun _ _ _ => trivial)
  ·
   refine run_cond_f rfl (run_skip (fin_next rfl (run_seq (run_region (ops_val (yld_loadS 1 Tryz.isAgg38 Tryz.sizeOf38 rfl rfl rfl) rfl ?_)))))
   refine ops_call (nAtom_c c hok) rfl pf_nil (fun v _ h => by exact ⟨h.1, h.2.2.1, trivial⟩) rfl fun _ => ?_
   refine ops_val (yld_move rfl) rfl (ops_val (yld_extract rfl rfl) rfl ?_)
   refine ops_val (yld_extract rfl rfl) rfl ?_
   refine ops_val (yld_assign rfl) rfl (ops_val (yld_assign rfl) rfl (ops_nil (fin_next rfl (run_seq (run_region (ops_val (yld_loadS 0 Tryz.isAgg38 Tryz.sizeOf38 rfl rfl rfl) rfl ?_))))))
   refine ops_call (nAtom_c d hok') rfl pf_nil (fun v _ h => by exact ⟨h.2.1, h.2.2.1, trivial⟩) rfl fun _ => ?_
   refine ops_val (yld_move rfl) rfl (ops_val (yld_extract rfl rfl) rfl ?_)
   refine ops_val (yld_extract rfl rfl) rfl ?_
   refine ops_val (yld_assign rfl) rfl (ops_val (yld_assign rfl) rfl (ops_nil (fin_next rfl (run_seq (run_seq (run_region (ops_val (yld_move rfl) rfl ?_)))))))
   refine ops_valB (yld_neq rfl rfl) rfl fun r1 hr1 => ?_
   refine ops_val (yld_move rfl) rfl ?_
   cases r1
   ·
    replace hr1 := eq_of_bne hr1
    refine ops_yes rfl rfl (ops_val (yld_move rfl) rfl (ops_yes rfl rfl (ops_valB (yld_neq rfl rfl) rfl fun r2 hr2 => ?_)))
    refine ops_val (yld_pick_f rfl rfl) rfl ?_
    refine ops_nil (fin_next rfl ?_)
    cases r2
    ·
     replace hr2 := eq_of_bne hr2
     have HC : Con.check c = 0 := by assumption
     have HD : Con.check d = 0 := by assumption
     refine run_cond_f rfl (run_skip (fin_next rfl (run_seq (run_region (ops_val (yld_loadS 1 Tryz.isAgg38 Tryz.sizeOf38 rfl rfl rfl) rfl ?_)))))
     refine ops_call (prConcept_c c hok) rfl pf_nil (fun v _ h => by exact ⟨h.1, h.2.2.1, trivial⟩) rfl fun _ => ?_
     refine ops_val (yld_move rfl) rfl (ops_val (yld_extract rfl rfl) rfl ?_)
     refine ops_val (yld_extract rfl rfl) rfl ?_
     refine ops_val (yld_assign rfl) rfl (ops_val (yld_assign rfl) rfl (ops_nil (fin_next rfl (run_seq (run_seq (run_region (ops_val (yld_move rfl) rfl ?_)))))))
     refine ops_valB (yld_neq rfl rfl) rfl fun r3 hr3 => ?_
     refine ops_val (yld_move rfl) rfl ?_
     cases r3
     ·
      replace hr3 := eq_of_bne hr3
      refine ops_yes rfl rfl (ops_val (yld_move rfl) rfl (ops_yes rfl rfl (ops_val (yld_move rfl) rfl (ops_yes rfl rfl (ops_valB (yld_seql rfl rfl) rfl fun r4 hr4 => ?_)))))
      refine ops_yes rfl rfl (ops_val (yld_loadS 1 Tryz.isAgg38 Tryz.sizeOf38 rfl rfl rfl) rfl ?_)
      refine ops_yes rfl rfl (ops_val (yld_loadS 0 Tryz.isAgg38 Tryz.sizeOf38 rfl rfl rfl) rfl ?_)
      refine ops_yes rfl rfl (ops_call (compareC_c c d hok hok' (by have := (Con.check_zero HC).2; omega) (by have := (Con.check_zero HD).2; omega)) rfl pf_nil (fun v _ h => by exact ⟨h.1, h.2.1, trivial⟩) rfl fun ⟨n1, hn1⟩ => ?_)
      dsimp only
      refine ops_yes rfl rfl (ops_valB (yld_eql rfl rfl) rfl fun r5 hr5 => ?_)
      refine ops_yes rfl rfl (ops_valB (yld_bneq Tryz.underlying4 rfl rfl) rfl fun r6 hr6 => ?_)
      refine ops_val (yld_pick_f rfl rfl) rfl ?_
      refine ops_nil (fin_next rfl ?_)
      cases r6
      ·
       refine run_cond_f rfl (run_skip (fin_next rfl (run_seq (run_seq (run_region (ops_val (yld_field Tryz.runUnderlying38 rfl rfl rfl Tryz.sizeOf3) rfl ?_))))))
       refine ops_val (yld_load 1 Tryz.isAgg3 rfl rfl rfl) rfl ?_
       refine ops_valB (yld_eql rfl rfl) rfl fun r7 hr7 => ?_
       refine ops_val (yld_move rfl) rfl ?_
       cases r7
       ·
        replace hr7 := ne_of_beq_false hr7
        refine ops_yes rfl rfl (ops_val (yld_field Tryz.runUnderlying38 rfl rfl rfl Tryz.sizeOf3) rfl ?_)
        refine ops_yes rfl rfl (ops_val (yld_load 1 Tryz.isAgg3 rfl rfl rfl) rfl ?_)
        refine ops_yes rfl rfl (ops_valB (yld_eql rfl rfl) rfl fun r8 hr8 => ?_)
        refine ops_val (yld_pick_f rfl rfl) rfl ?_
        refine ops_val (yld_move rfl) rfl ?_
        cases r8
        ·
         replace hr8 := ne_of_beq_false hr8
         refine ops_yes rfl rfl (ops_val (yld_field Tryz.runUnderlying38 rfl rfl rfl Tryz.sizeOf3) rfl ?_)
         refine ops_yes rfl rfl (ops_val (yld_load 1 Tryz.isAgg3 rfl rfl rfl) rfl ?_)
         refine ops_yes rfl rfl (ops_valB (yld_eql rfl rfl) rfl fun r9 hr9 => ?_)
         refine ops_val (yld_pick_f rfl rfl) rfl ?_
         refine ops_nil (fin_next rfl ?_)
         cases r9
         ·
          replace hr9 := ne_of_beq_false hr9
          refine run_cond_f rfl (run_skip (fin_next rfl (run_seq (run_region (ops_val (yld_field Tryz.runUnderlying38 rfl rfl rfl Tryz.sizeOf3) rfl ?_)))))
          refine ops_val (yld_load 1 Tryz.isAgg3 rfl rfl rfl) rfl ?_
          refine ops_valB (yld_eql rfl rfl) rfl fun r10 hr10 => ?_
          refine ops_val (yld_move rfl) rfl ?_
          cases r10
          ·
           replace hr10 := ne_of_beq_false hr10
           refine ops_no rfl rfl rfl rfl (ops_no rfl rfl rfl rfl (ops_val (yld_pick_f rfl rfl) rfl ?_))
           refine ops_val (yld_move rfl) rfl (ops_yes rfl rfl (ops_val (yld_field Tryz.runUnderlying38 rfl rfl rfl Tryz.sizeOf3) rfl ?_))
           refine ops_yes rfl rfl (ops_val (yld_load 1 Tryz.isAgg3 rfl rfl rfl) rfl ?_)
           refine ops_yes rfl rfl (ops_valB (yld_eql rfl rfl) rfl fun r11 hr11 => ?_)
           refine ops_yes rfl rfl (ops_val (yld_move rfl) rfl ?_)
           cases r11
           ·
            replace hr11 := ne_of_beq_false hr11
            refine ops_no rfl rfl rfl rfl (ops_no rfl rfl rfl rfl (ops_yes rfl rfl (ops_val (yld_pick_f rfl rfl) rfl ?_)))
            refine ops_val (yld_pick_f rfl rfl) rfl ?_
            refine ops_val (yld_move rfl) rfl (ops_yes rfl rfl (ops_val (yld_field Tryz.runUnderlying38 rfl rfl rfl Tryz.sizeOf3) rfl ?_))
            refine ops_yes rfl rfl (ops_val (yld_load 1 Tryz.isAgg3 rfl rfl rfl) rfl ?_)
            refine ops_yes rfl rfl (ops_valB (yld_geq rfl rfl) rfl fun r12 hr12 => ?_)
            refine ops_yes rfl rfl (ops_val (yld_move rfl) rfl ?_)
            cases r12
            ·
             replace hr12 := of_decide_eq_false hr12
             refine ops_no rfl rfl rfl rfl (ops_no rfl rfl rfl rfl (ops_no rfl rfl rfl rfl (ops_yes rfl rfl (ops_val (yld_pick_f rfl rfl) rfl ?_))))
             refine ops_val (yld_pick_f rfl rfl) rfl ?_
             refine ops_val (yld_assign rfl) rfl (ops_nil (fin_next rfl (run_ret ?_)))
             exfalso; have F := Con.fields (Con.check_zero HC).1; have F1 := F.k1; have F7 := F.k7; have hk : c.kind = 1 ∨ c.kind = 2 ∨ c.kind = 3 ∨ c.kind = 4 := by omega
             rcases hk with hk | hk | hk | hk <;> simp_all [Con.atom]
            ·
             replace hr12 := of_decide_eq_true hr12
             refine ops_yes rfl rfl (ops_val (yld_move rfl) rfl (ops_yes rfl rfl (ops_val (yld_move rfl) rfl (ops_yes rfl rfl (ops_valB (yld_seql rfl rfl) rfl fun r13 hr13 => ?_)))))
             refine ops_yes rfl rfl (ops_val (yld_pick_t rfl rfl) rfl ?_)
             refine ops_val (yld_pick_f rfl rfl) rfl ?_
             refine ops_val (yld_assign rfl) rfl (ops_nil (fin_next rfl (run_ret ?_)))
             exact ret1 Tryz.results6 () (get_bool rfl (by have F7 := (Con.fields (Con.check_zero HC).1).k7; rw [← hr13, beq_iff_eq, if_pos HC]; first | exact atoms_text HC (by omega) | exact atoms_txt HC (by omega))) pf_nil (fun _ _ _ => trivial)
           ·
            replace hr11 := eq_of_beq hr11
            refine ops_yes rfl rfl (ops_val (yld_move rfl) rfl (ops_yes rfl rfl (ops_valB (yld_seql rfl rfl) rfl fun r14 hr14 => ?_)))
            refine ops_yes rfl rfl (ops_val (yld_pick_t rfl rfl) rfl ?_)
            refine ops_val (yld_pick_f rfl rfl) rfl ?_
            refine ops_val (yld_move rfl) rfl ?_
            cases r14
            ·
             replace hr14 := ne_of_beq_false hr14
             refine ops_yes rfl rfl (ops_val (yld_field Tryz.runUnderlying38 rfl rfl rfl Tryz.sizeOf3) rfl ?_)
             refine ops_yes rfl rfl (ops_val (yld_load 1 Tryz.isAgg3 rfl rfl rfl) rfl ?_)
             refine ops_yes rfl rfl (ops_valB (yld_geq rfl rfl) rfl fun r15 hr15 => ?_)
             refine ops_yes rfl rfl (ops_val (yld_move rfl) rfl ?_)
             cases r15
             ·
              replace hr15 := of_decide_eq_false hr15
              refine ops_no rfl rfl rfl rfl (ops_no rfl rfl rfl rfl (ops_no rfl rfl rfl rfl (ops_yes rfl rfl (ops_val (yld_pick_f rfl rfl) rfl ?_))))
              refine ops_val (yld_pick_f rfl rfl) rfl ?_
              refine ops_val (yld_assign rfl) rfl (ops_nil (fin_next rfl (run_ret ?_)))
              exfalso; have F := Con.fields (Con.check_zero HC).1; have F1 := F.k1; have F7 := F.k7; have hk : c.kind = 1 ∨ c.kind = 2 ∨ c.kind = 3 ∨ c.kind = 4 := by omega
              rcases hk with hk | hk | hk | hk <;> simp_all [Con.atom]
             ·
              replace hr15 := of_decide_eq_true hr15
              refine ops_yes rfl rfl (ops_val (yld_move rfl) rfl (ops_yes rfl rfl (ops_val (yld_move rfl) rfl (ops_yes rfl rfl (ops_valB (yld_seql rfl rfl) rfl fun r16 hr16 => ?_)))))
              refine ops_yes rfl rfl (ops_val (yld_pick_t rfl rfl) rfl ?_)
              refine ops_val (yld_pick_f rfl rfl) rfl ?_
              refine ops_val (yld_assign rfl) rfl (ops_nil (fin_next rfl (run_ret ?_)))
              exact ret1 Tryz.results6 () (get_bool rfl (by have F7 := (Con.fields (Con.check_zero HC).1).k7; rw [← hr16, beq_iff_eq, if_pos HC]; first | exact atoms_text HC (by omega) | exact atoms_txt HC (by omega))) pf_nil (fun _ _ _ => trivial)
            ·
             replace hr14 := eq_of_beq hr14
             refine ops_no rfl rfl rfl rfl (ops_no rfl rfl rfl rfl (ops_no rfl rfl rfl rfl (ops_no rfl rfl rfl rfl (ops_no rfl rfl rfl rfl (ops_no rfl rfl rfl rfl (ops_no rfl rfl rfl rfl (ops_no rfl rfl rfl rfl ?_)))))))
             refine ops_val (yld_pick_t rfl rfl) rfl ?_
             refine ops_val (yld_assign rfl) rfl (ops_nil (fin_next rfl (run_ret ?_)))
             exact ret1 Tryz.results6 () rfl pf_nil (fun _ _ _ => trivial)
          ·
           replace hr10 := eq_of_beq hr10
           refine ops_yes rfl rfl (ops_val (yld_move rfl) rfl (ops_yes rfl rfl (ops_valB (yld_seql rfl rfl) rfl fun r17 hr17 => ?_)))
           refine ops_val (yld_pick_t rfl rfl) rfl ?_
           refine ops_val (yld_move rfl) rfl ?_
           cases r17
           ·
            replace hr17 := ne_of_beq_false hr17
            refine ops_yes rfl rfl (ops_val (yld_field Tryz.runUnderlying38 rfl rfl rfl Tryz.sizeOf3) rfl ?_)
            refine ops_yes rfl rfl (ops_val (yld_load 1 Tryz.isAgg3 rfl rfl rfl) rfl ?_)
            refine ops_yes rfl rfl (ops_valB (yld_eql rfl rfl) rfl fun r18 hr18 => ?_)
            refine ops_yes rfl rfl (ops_val (yld_move rfl) rfl ?_)
            cases r18
            ·
             replace hr18 := ne_of_beq_false hr18
             refine ops_no rfl rfl rfl rfl (ops_no rfl rfl rfl rfl (ops_yes rfl rfl (ops_val (yld_pick_f rfl rfl) rfl ?_)))
             refine ops_val (yld_pick_f rfl rfl) rfl ?_
             refine ops_val (yld_move rfl) rfl (ops_yes rfl rfl (ops_val (yld_field Tryz.runUnderlying38 rfl rfl rfl Tryz.sizeOf3) rfl ?_))
             refine ops_yes rfl rfl (ops_val (yld_load 1 Tryz.isAgg3 rfl rfl rfl) rfl ?_)
             refine ops_yes rfl rfl (ops_valB (yld_geq rfl rfl) rfl fun r19 hr19 => ?_)
             refine ops_yes rfl rfl (ops_val (yld_move rfl) rfl ?_)
             cases r19
             ·
              replace hr19 := of_decide_eq_false hr19
              refine ops_no rfl rfl rfl rfl (ops_no rfl rfl rfl rfl (ops_no rfl rfl rfl rfl (ops_yes rfl rfl (ops_val (yld_pick_f rfl rfl) rfl ?_))))
              refine ops_val (yld_pick_f rfl rfl) rfl ?_
              refine ops_val (yld_assign rfl) rfl (ops_nil (fin_next rfl (run_ret ?_)))
              exfalso; have F := Con.fields (Con.check_zero HC).1; have F1 := F.k1; have F7 := F.k7; have hk : c.kind = 1 ∨ c.kind = 2 ∨ c.kind = 3 ∨ c.kind = 4 := by omega
              rcases hk with hk | hk | hk | hk <;> simp_all [Con.atom]
             ·
              replace hr19 := of_decide_eq_true hr19
              refine ops_yes rfl rfl (ops_val (yld_move rfl) rfl (ops_yes rfl rfl (ops_val (yld_move rfl) rfl (ops_yes rfl rfl (ops_valB (yld_seql rfl rfl) rfl fun r20 hr20 => ?_)))))
              refine ops_yes rfl rfl (ops_val (yld_pick_t rfl rfl) rfl ?_)
              refine ops_val (yld_pick_f rfl rfl) rfl ?_
              refine ops_val (yld_assign rfl) rfl (ops_nil (fin_next rfl (run_ret ?_)))
              exact ret1 Tryz.results6 () (get_bool rfl (by have F7 := (Con.fields (Con.check_zero HC).1).k7; rw [← hr20, beq_iff_eq, if_pos HC]; first | exact atoms_text HC (by omega) | exact atoms_txt HC (by omega))) pf_nil (fun _ _ _ => trivial)
            ·
             replace hr18 := eq_of_beq hr18
             refine ops_yes rfl rfl (ops_val (yld_move rfl) rfl (ops_yes rfl rfl (ops_valB (yld_seql rfl rfl) rfl fun r21 hr21 => ?_)))
             refine ops_yes rfl rfl (ops_val (yld_pick_t rfl rfl) rfl ?_)
             refine ops_val (yld_pick_f rfl rfl) rfl ?_
             refine ops_val (yld_move rfl) rfl ?_
             cases r21
             ·
              replace hr21 := ne_of_beq_false hr21
              refine ops_yes rfl rfl (ops_val (yld_field Tryz.runUnderlying38 rfl rfl rfl Tryz.sizeOf3) rfl ?_)
              refine ops_yes rfl rfl (ops_val (yld_load 1 Tryz.isAgg3 rfl rfl rfl) rfl ?_)
              refine ops_yes rfl rfl (ops_valB (yld_geq rfl rfl) rfl fun r22 hr22 => ?_)
              refine ops_yes rfl rfl (ops_val (yld_move rfl) rfl ?_)
              cases r22
              ·
               replace hr22 := of_decide_eq_false hr22
               refine ops_no rfl rfl rfl rfl (ops_no rfl rfl rfl rfl (ops_no rfl rfl rfl rfl (ops_yes rfl rfl (ops_val (yld_pick_f rfl rfl) rfl ?_))))
               refine ops_val (yld_pick_f rfl rfl) rfl ?_
               refine ops_val (yld_assign rfl) rfl (ops_nil (fin_next rfl (run_ret ?_)))
               exfalso; have F := Con.fields (Con.check_zero HC).1; have F1 := F.k1; have F7 := F.k7; have hk : c.kind = 1 ∨ c.kind = 2 ∨ c.kind = 3 ∨ c.kind = 4 := by omega
               rcases hk with hk | hk | hk | hk <;> simp_all [Con.atom]
              ·
               replace hr22 := of_decide_eq_true hr22
               refine ops_yes rfl rfl (ops_val (yld_move rfl) rfl (ops_yes rfl rfl (ops_val (yld_move rfl) rfl (ops_yes rfl rfl (ops_valB (yld_seql rfl rfl) rfl fun r23 hr23 => ?_)))))
               refine ops_yes rfl rfl (ops_val (yld_pick_t rfl rfl) rfl ?_)
               refine ops_val (yld_pick_f rfl rfl) rfl ?_
               refine ops_val (yld_assign rfl) rfl (ops_nil (fin_next rfl (run_ret ?_)))
               exact ret1 Tryz.results6 () (get_bool rfl (by have F7 := (Con.fields (Con.check_zero HC).1).k7; rw [← hr23, beq_iff_eq, if_pos HC]; first | exact atoms_text HC (by omega) | exact atoms_txt HC (by omega))) pf_nil (fun _ _ _ => trivial)
             ·
              replace hr21 := eq_of_beq hr21
              refine ops_no rfl rfl rfl rfl (ops_no rfl rfl rfl rfl (ops_no rfl rfl rfl rfl (ops_no rfl rfl rfl rfl (ops_no rfl rfl rfl rfl (ops_no rfl rfl rfl rfl (ops_no rfl rfl rfl rfl (ops_no rfl rfl rfl rfl ?_)))))))
              refine ops_val (yld_pick_t rfl rfl) rfl ?_
              refine ops_val (yld_assign rfl) rfl (ops_nil (fin_next rfl (run_ret ?_)))
              exact ret1 Tryz.results6 () rfl pf_nil (fun _ _ _ => trivial)
           ·
            replace hr17 := eq_of_beq hr17
            refine ops_no rfl rfl rfl rfl (ops_no rfl rfl rfl rfl (ops_no rfl rfl rfl rfl (ops_no rfl rfl rfl rfl (ops_no rfl rfl rfl rfl (ops_no rfl rfl rfl rfl (ops_no rfl rfl rfl rfl (ops_val (yld_pick_t rfl rfl) rfl ?_)))))))
            refine ops_val (yld_move rfl) rfl (ops_no rfl rfl rfl rfl (ops_no rfl rfl rfl rfl (ops_no rfl rfl rfl rfl (ops_no rfl rfl rfl rfl (ops_no rfl rfl rfl rfl (ops_no rfl rfl rfl rfl (ops_no rfl rfl rfl rfl ?_)))))))
            refine ops_no rfl rfl rfl rfl (ops_val (yld_pick_t rfl rfl) rfl ?_)
            refine ops_val (yld_assign rfl) rfl (ops_nil (fin_next rfl (run_ret ?_)))
            exact ret1 Tryz.results6 () rfl pf_nil (fun _ _ _ => trivial)
         ·
          replace hr9 := eq_of_beq hr9
          refine run_cond_t rfl (run_seq (run_region (ops_val (yld_move rfl) rfl (ops_val (yld_move rfl) rfl (ops_val (yld_cat rfl rfl (by have := Con.textN_len hok; simp; omega)) rfl ?_)))))
          refine ops_val (yld_cat rfl rfl (by have := Con.textN_len hok; simp; omega)) rfl ?_
          refine ops_valB (yld_seql rfl rfl) rfl fun r24 hr24 => ?_
          refine ops_val (yld_assign rfl) rfl (ops_nil (fin_next rfl (run_ret ?_)))
          exact ret1 Tryz.results6 () (get_bool rfl (by have F7 := (Con.fields (Con.check_zero HC).1).k7; rw [← hr24, beq_iff_eq, if_pos HC]; first | exact atoms_text HC (by omega) | exact atoms_txt HC (by omega))) pf_nil (fun _ _ _ => trivial)
        ·
         replace hr8 := eq_of_beq hr8
         refine ops_no rfl rfl rfl rfl (ops_no rfl rfl rfl rfl (ops_no rfl rfl rfl rfl (ops_val (yld_pick_t rfl rfl) rfl ?_)))
         refine ops_nil (fin_next rfl (run_cond_t rfl (run_seq (run_region (ops_val (yld_move rfl) rfl (ops_val (yld_move rfl) rfl (ops_val (yld_cat rfl rfl (by have := Con.textN_len hok; simp; omega)) rfl ?_)))))))
         refine ops_val (yld_cat rfl rfl (by have := Con.textN_len hok; simp; omega)) rfl ?_
         refine ops_valB (yld_seql rfl rfl) rfl fun r25 hr25 => ?_
         refine ops_val (yld_assign rfl) rfl (ops_nil (fin_next rfl (run_ret ?_)))
         exact ret1 Tryz.results6 () (get_bool rfl (by have F7 := (Con.fields (Con.check_zero HC).1).k7; rw [← hr25, beq_iff_eq, if_pos HC]; first | exact atoms_text HC (by omega) | exact atoms_txt HC (by omega))) pf_nil (fun _ _ _ => trivial)
       ·
        replace hr7 := eq_of_beq hr7
        refine ops_no rfl rfl rfl rfl (ops_no rfl rfl rfl rfl (ops_no rfl rfl rfl rfl (ops_val (yld_pick_t rfl rfl) rfl ?_)))
        refine ops_val (yld_move rfl) rfl (ops_no rfl rfl rfl rfl (ops_no rfl rfl rfl rfl (ops_no rfl rfl rfl rfl (ops_val (yld_pick_t rfl rfl) rfl ?_))))
        refine ops_nil (fin_next rfl (run_cond_t rfl (run_seq (run_region (ops_val (yld_move rfl) rfl (ops_val (yld_move rfl) rfl (ops_val (yld_cat rfl rfl (by have := Con.textN_len hok; simp; omega)) rfl ?_)))))))
        refine ops_val (yld_cat rfl rfl (by have := Con.textN_len hok; simp; omega)) rfl ?_
        refine ops_valB (yld_seql rfl rfl) rfl fun r26 hr26 => ?_
        refine ops_val (yld_assign rfl) rfl (ops_nil (fin_next rfl (run_ret ?_)))
        exact ret1 Tryz.results6 () (get_bool rfl (by have F7 := (Con.fields (Con.check_zero HC).1).k7; rw [← hr26, beq_iff_eq, if_pos HC]; first | exact atoms_text HC (by omega) | exact atoms_txt HC (by omega))) pf_nil (fun _ _ _ => trivial)
      ·
       exact absurd hr6 (by rw [← hr4, ← hr5, if_pos HC, if_pos HD, atoms_agree HC HD hn1]; simp)
     ·
      replace hr3 := ne_of_bne hr3
      exact absurd HC hr3
    ·
     replace hr2 := ne_of_bne hr2
     refine run_cond_t rfl (run_seq (run_region (ops_val (yld_assign rfl) rfl (ops_nil (fin_next rfl (run_ret ?_))))))
     exact ret1 Tryz.results6 () rfl pf_nil (fun _ _ _ => trivial)
   ·
    replace hr1 := ne_of_bne hr1
    refine ops_no rfl rfl rfl rfl (ops_no rfl rfl rfl rfl (ops_val (yld_pick_t rfl rfl) rfl ?_))
    refine ops_nil (fin_next rfl (run_cond_t rfl (run_seq (run_region (ops_val (yld_assign rfl) rfl (ops_nil (fin_next rfl ?_)))))))
    refine run_ret ?_
    exact ret1 Tryz.results6 () rfl pf_nil (fun _ _ _ => trivial)

end Go.Proofs.YtoafjmalfclpoaaGreatDoor
