/-
  Part of the proof of the law CheckerBytes over this seat: the small logic, the data, the contracts of functions (no condition).
-/
import Derived.Test.YtaffcjgphlhppaaGreatDoorQCheckerBytes2
import Derived.Laws.OwnMore
import Derived.ArgAppend
import Derived.Shelf.Strings.Builder1
import Derived.Shelf.Strings.Builder2
import Derived.Shelf.Strings.OnBuilder
import Derived.Shelf.Small.Bits
import Derived.Shelf.Small.Strs
import Derived.Shelf.Small.Wraps
import Derived.Shelf.Strconv.Itoa0
import Derived.Shelf.Strconv.Itoa1
import Derived.Shelf.LaysM
import Derived.Shelf.Strconv.Itoa2
import Derived.Shelf.Strconv.Itoa3
import Derived.Shelf.Strings.Search1
import Derived.Shelf.Strings.Search2
import Derived.Shelf.Strings.Search3
import Derived.Shelf.Strings.Cut
import Derived.Shelf.Strings.Count
import Derived.Shelf.Strings.Shaped
import Derived.Shelf.Sort.Plain
import Derived.Shelf.Unicode.DecodeSlow
import Derived.Shelf.Slices.CompactS
import Derived.Shelf.Slices.Cells
import Derived.Shelf.Slices.In.SortNone
import Derived.Test.YtaffcjgphlhppaaGreatDoorProg
set_option linter.unusedVariables false
set_option linter.unusedSimpArgs false
set_option linter.unusedSectionVars false
namespace Go.Sx
open Go
section
variable {P : Program} {N : Nf} {v0 : Vw} {H0 : Hp} {R : Exit → Act → World → Prop} {K : List Kt} {fr : Fr} {H : Hp} {Γ : List Fct}
variable {ops : Array Oper} {l : List Oper} {d : Nat} {ty : TypeId} {ps : String} {af : Array Edge}
theorem eH_ {x y : Operand} {t e : TypeId} {sz by' n m c : Nat} {sv : Value} {xs news : List Value} {Hr F : Hp} {ad : Option Addr} (he : Elt P t e sz by') (hrow : bi_ e sz sv n xs Hr)
    (hx : Fr.ev fr x = some sv) (hy : Fr.ev fr y = some (.slice ad m c)) (hz : ad = none → c = 0) (hmc : m ≤ c) (hH : H.Perm (Hr ++ F)) (hl : news.length = m * sz) (hnews : ∀ v, v.sat H → aD_ Γ v → bV_ v ad news) (h1c : ∀ u ∈ news, u.oneCell' = true)
    (h63 : n + m ≤ maxLen) (hb : (n + m) * by' ≤ 140737488355328) (hN : Nat.blt d N.n = true)
    (hk : ∀ sv' Hr', bi_ e sz sv' (n + m) (xs ++ news) Hr' → Ops P R N v0 H0 ops l K ((d, sv') :: fr) (Hr' ++ F) Γ) :
    Ops P R N v0 H0 ops (⟨some d, .call ⟨.builtin .append, #[x, y], #[t, t]⟩, ty, ps, af, none⟩ :: l) K fr H Γ := by
  cases ad with
  | none =>
    obtain rfl := hz rfl
    obtain rfl : m = 0 := by omega
    obtain rfl : news = [] := List.eq_nil_of_length_eq_zero (by simpa using hl)
    refine cR_ rfl fun a v h1 h2 h3 h4 => ?_
    obtain ⟨i, z, hi, hz, es, eb, ez⟩ := he.info
    have g := h2.perm hH
    have ho := hrow.owns g
    have hr := run_append_owned_none (P := P) (w := v.w) 0 t ty e i sz he.und hi sv n xs ho
    unfold Oper.wp execOp
    simp only [resolve, invoke, builtin, Sem.run_bind, Sem.run_pure, Result.andThen_ok, List.map_toArray, List.map_cons, List.map_nil, h1.ev hx, h1.ev hy, hr]
    have T : v.to H v (Hr ++ F) := (Vw.to.refl v (Hr ++ F)).permL hH.symm
    exact hk sv Hr (by simpa using hrow) _ v (h1.put hN) g (h3.trans T) h4
  | some a0 =>
    refine bC_ he hrow hx hy hH hl (fun v h2 h4 j u hj => ?_) h1c h63 hb hN hk
    rcases hnews v h2 h4 with h | ⟨b, off, arr, T, fz, h1, _, h3, h5⟩
    · rw [h] at hj; simp at hj
    · rw [Option.some.injEq] at h1
      subst h1
      have := h5 j u hj
      rw [cT_]
      simp [World.cell?, h3, this]
theorem cf_ {k : Act → World → Prop} {e : TypeId} {sz n : Nat} {sv : Value} {xs : List Value} {Hr F : Hp} (hr : bi_ e sz sv n xs Hr) (hH : H.Perm (Hr ++ F))
    (h : ∀ ad cap, sv = .slice ad n cap → n ≤ cap → cap ≤ maxLen → (ad = none → cap = 0) → Ok N v0 H0 k fr F (aY_ ad xs :: Γ)) : Ok N v0 H0 k fr H Γ := by
  refine hZ_ hr hH fun ad cap e1 e2 e3 => h ad cap e1 e2 e3 fun e4 => ?_
  rcases hr.2 with ⟨h1, _, _⟩ | ⟨g, c, cur, h1, _⟩
  · rw [h1] at e1
    simp only [Value.slice.injEq] at e1
    exact e1.2.2.symm
  · rw [h1, e4] at e1
    simp at e1
theorem fz_ {cap i n : Nat} {ad : Option Addr} (h : sad ad cap i n = none) : ad = none := by
  unfold sad at h
  split at h
  · exact h
  · simpa using h
end
end Go.Sx
namespace Go.Sx
open Go
section
variable {P : Program} {N : Nf} {fr : Fr} {H : Hp} {Γ : List Fct} {ty : TypeId} {e : TypeId} {sz n : Nat} {sv : Value} {xs : List Value} {Hr F : Hp}
theorem pi_ {O : Hp} : List.Perm (O ++ []) O := by rw [List.append_nil]
theorem cD_ {O Q : Hp} : List.Perm (Q ++ O) (O ++ Q) := List.perm_append_comm
theorem aK_ {O : Hp} {b : Nat × Obj} : List.Perm (b :: O) (O ++ [b]) := List.perm_append_comm (l₁ := [b])
theorem iT_ {H : Hp} : List.Perm ([] ++ H) H := .refl _
end
end Go.Sx
namespace Go.Sx
open Go
section
variable {P : Program} {N : Nf} {fr : Fr} {H : Hp} {Γ : List Fct} {ty : TypeId} {e : TypeId} {sz n : Nat} {sv : Value} {xs : List Value} {Hr F : Hp}
theorem eV_ (h : bi_ e sz sv n xs Hr) : sv.cells = #[sv] ∧ sv.oneCell' = true := by
  rcases h.2 with ⟨rfl, _⟩ | ⟨g, cap, cur, rfl, _⟩ <;> exact ⟨rfl, rfl⟩
theorem bQ_ {v0 : Vw} {H0 : Hp} {R : Exit → Act → World → Prop} {K : List Kt} {ops : Array Oper} {l : List Oper} {ps : String} {af : Array Edge} {t : TypeId} {x y : Operand} {b off : Nat} (i : Nat) {cur : Array Value} {T : TypeId} (hrow : bi_ e sz sv n xs Hr) (hs : ∀ w, (sizeOf t).run P w = .ok 1 w)
    (hx : Fr.ev fr x = some (.pointer (some ⟨b, off, none⟩))) (hy : Fr.ev fr y = some sv) (hi : H[i]? = some (b, .cells cur T (0, 0))) (hf : Nat.ble (off + 1) cur.size = true)
    (hk : Ops P R N v0 H0 ops l K fr (H.set i (b, .cells (cur.toList.take off ++ [sv] ++ cur.toList.drop (off + 1)).toArray T (0, 0))) Γ) : Ops P R N v0 H0 ops (⟨none, .store t x y, ty, ps, af, none⟩ :: l) K fr H Γ :=
  Q_ i hs hx hy hi (by rw [(eV_ hrow).1]; rfl) hf (by rw [(eV_ hrow).1]; simp [(eV_ hrow).2]) (by rw [(eV_ hrow).1]; exact hk)
theorem nu_ {x y : Operand} {t t' : TypeId} {m k : Int} (hx : Fr.ev fr x = some (.int .i64 m)) (hy : Fr.ev fr y = some (.int .i64 k)) : Yld P N fr H Γ (.call ⟨.builtin .max, #[x, y], #[t, t']⟩) ty (.int .i64 (max m k)) := by
  have e : (if m < k then k else m) = max m k := by split <;> omega
  exact e ▸ oP_ hx hy
theorem nt_ {x y : Operand} {t t' : TypeId} {m k : Int} (hx : Fr.ev fr x = some (.int .i64 m)) (hy : Fr.ev fr y = some (.int .i64 k)) : Yld P N fr H Γ (.call ⟨.builtin .min, #[x, y], #[t, t']⟩) ty (.int .i64 (min m k)) := by
  have e : (if k < m then k else m) = min m k := by split <;> omega
  exact e ▸ lV_ hx hy
theorem bH_ {α : Type} {f : α → List Value} (hf : ∀ x, (f x).all Value.oneCell' = true) {l : List α} {u : Value} (h : u ∈ l.flatMap f) : u.oneCell' = true := by
  obtain ⟨y, _, hy⟩ := List.mem_flatMap.1 h
  exact List.all_eq_true.1 (hf y) u hy
end
end Go.Sx
namespace Go.Sx
open Go
section
variable {P : Program} {N : Nf} {v0 : Vw} {H0 : Hp} {R : Exit → Act → World → Prop} {K : List Kt} {fr : Fr} {H F : Hp} {Γ : List Fct} {ops : Array Oper} {l : List Oper} {ty : TypeId} {ps : String} {af : Array Edge} {e : TypeId} {sz n : Nat} {sv : Value} {xs : List Value} {Hr : Hp}
theorem bZ_ {t t' : TypeId} {x : Operand} {k k' : IntKind} {m r : Int} {u : TypeDesc} (hs : P.underlying t = some u) (hd : P.underlying t' = some (.int k')) (hx : Fr.ev fr x = some (.int k m)) (hw : IntKind.wrap k' m = r) : Yld P N fr H Γ (.convert t t' x) ty (.int k' r) :=
  fun a v h1 _ _ _ _ _ => by subst hw; simp [execOp, h1.ev hx, convert, run_underlying hs, run_underlying hd, Conv.intToInt]
theorem ki_ {r : Int} (h1 : 0 ≤ r) (h2 : r ≤ 18446744073709551615) : IntKind.wrap .u64 r = r := by
  simp [IntKind.wrap, IntKind.signed, IntKind.bits]
  omega
end
end Go.Sx
namespace Go.Sx
open Go
section
variable {P : Program} {N : Nf} {v0 : Vw} {H0 : Hp} {R : Exit → Act → World → Prop} {K : List Kt} {fr : Fr} {H F : Hp} {Γ : List Fct} {ops : Array Oper} {l : List Oper} {d : Nat} {ty : TypeId} {ps : String} {af : Array Edge} {e : TypeId} {sz n : Nat} {sv : Value} {xs : List Value} {Hr : Hp}
inductive ORow (e : TypeId) (sz : Nat) : Value → Nat → List Value → Hp → Prop
  | row {sv : Value} {n : Nat} {xs : List Value} {Hr : Hp} (h : bi_ e sz sv n xs Hr) : ORow e sz sv n xs Hr
  | cut {g k n cap : Nat} {pre xs : List Value} {Hr : Hp} (hp : pre.length = k * sz) (h : bi_ e sz (.slice (some ⟨g, 0, none⟩) (k + n) (k + cap)) (k + n) (pre ++ xs) Hr) : ORow e sz (.slice (some ⟨g, k * sz, none⟩) n cap) n xs Hr
  | out {g k : Nat} {Hr : Hp} : ORow e sz (.slice (some ⟨g, k * sz, none⟩) 0 0) 0 [] Hr
theorem ORow.len (h : ORow e sz sv n xs Hr) : xs.length = n * sz := by
  cases h with
  | row h => exact h.1
  | cut hp h => have := h.1; rw [List.length_append, hp, Nat.add_mul] at this; omega
  | out => simp
end
end Go.Sx
namespace Go.Sx
open Go
section
variable {P : Program} {N : Nf} {v0 : Vw} {H0 : Hp} {R : Exit → Act → World → Prop} {K : List Kt} {fr : Fr} {H F : Hp} {Γ : List Fct} {ops : Array Oper} {l : List Oper} {d : Nat} {ty : TypeId} {ps : String} {af : Array Edge} {e : TypeId} {sz n : Nat} {sv : Value} {xs : List Value} {Hr : Hp}
theorem dt_ {x y : Operand} {t : TypeId} {by' m : Nat} {sv2 : Value} {news : List Value} {H2 F2 : Hp} (he : Elt P t e sz by') (hrow : bi_ e sz sv n xs Hr) (h2 : bi_ e sz sv2 m news H2)
    (hx : Fr.ev fr x = some sv) (hy : Fr.ev fr y = some sv2) (hH : H.Perm (Hr ++ F)) (hH2 : H.Perm (H2 ++ F2)) (h1c : ∀ u ∈ news, u.oneCell' = true)
    (h63 : n + m ≤ maxLen) (hb : (n + m) * by' ≤ 140737488355328) (hN : Nat.blt d N.n = true)
    (hk : ∀ sv' Hr', bi_ e sz sv' (n + m) (xs ++ news) Hr' → Ops P R N v0 H0 ops l K ((d, sv') :: fr) (Hr' ++ F) Γ) :
    Ops P R N v0 H0 ops (⟨some d, .call ⟨.builtin .append, #[x, y], #[t, t]⟩, ty, ps, af, none⟩ :: l) K fr H Γ := by
  have hl := h2.1
  rcases h2.2 with ⟨rfl, rfl, rfl⟩ | ⟨g, cap, cur, rfl, rfl, h5, h6, h7, h8⟩
  · exact eH_ he hrow hx hy (fun _ => rfl) (Nat.le_refl _) hH hl (fun v _ _ => .inl (List.eq_nil_of_length_eq_zero (by simpa using hl))) h1c h63 hb hN hk
  · refine bC_ he hrow hx hy hH hl (fun v q _ j u hj => ?_) h1c h63 hb hN hk
    have hg := ((q.perm hH2).own (g, .cells cur e (0, 0)) (by simp)).1
    rw [← h8, List.getElem?_take] at hj
    split at hj
    · rw [cT_]
      simp only [World.cell?, Nat.zero_add, hg]
      simpa using hj
    · cases hj
end
end Go.Sx
namespace Go.Proofs
open Go.Shelf
open Go.RowKit Go.Sort Go.Lib in
def Tryz.lays219_ren : Go.Shelf.Ren := ⟨fun | 219 => 241 | 217 => 254 | 225 => 255 | 224 => 256 | 267 => 257 | 266 => 265 | 314 => 266 | n => n, fun | 9 => 9 | 3 => 3 | 4 => 4 | 5 => 5 | 46 => 165 | 146 => 274 | 51 => 206 | n => n, fun | 1 => 3 | n => n⟩
theorem Tryz.lays219 : Go.Proofs.Lays.n219 Tryz.prog Tryz.lays219_ren := {
  mixed := by kernel_rfl
  f217 := Tryz.func254.trans (congrArg some (by kernel_rfl))
  f219 := Tryz.func241.trans (congrArg some (by kernel_rfl))
  f224 := Tryz.func256.trans (congrArg some (by kernel_rfl))
  f225 := Tryz.func255.trans (congrArg some (by kernel_rfl))
  f266 := Tryz.func265.trans (congrArg some (by kernel_rfl))
  f267 := Tryz.func257.trans (congrArg some (by kernel_rfl))
  f314 := Tryz.func266.trans (congrArg some (by kernel_rfl))
  t3 := Tryz.underlying3
  a3 := Tryz.isAgg3
  z3 := Tryz.sizeOf3
  v3 := Tryz.zeroValue3
  t4 := Tryz.underlying4
  a4 := Tryz.isAgg4
  z4 := Tryz.sizeOf4
  v4 := Tryz.zeroValue4
  t5 := Tryz.underlying5
  a5 := Tryz.isAgg5
  z5 := Tryz.sizeOf5
  v5 := Tryz.zeroValue5
  t9 := Tryz.underlying9
  a9 := Tryz.isAgg9
  z9 := Tryz.sizeOf9
  v9 := Tryz.zeroValue9
  t46 := Tryz.underlying165
  a46 := Tryz.isAgg165
  z46 := Tryz.sizeOf165
  v46 := Tryz.zeroValue165
  t51 := Tryz.underlying206
  a51 := Tryz.isAgg206
  z51 := Tryz.sizeOf206
  v51 := Tryz.zeroValue206
  t146 := Tryz.underlying274
  a146 := Tryz.isAgg274
  z146 := Tryz.sizeOf274
  v146 := Tryz.zeroValue274
  g1 := by kernel_rfl }
open Go.RowKit Go.Lib in
theorem Tryz.stringslite_Index_one (s : ByteArray) (c : UInt8) (w : World) :
    Calls Tryz.prog 241 #[.string s, .string ⟨#[c]⟩] w fun e w' => e = .returned (.int .i64 (Lib.indexByte s.data.toList c)) ∧ w' = w := Any.stringslite_Index_one Tryz.lays219 s c w
def Tryz.lays143_ren : Go.Shelf.Ren := ⟨fun | 143 => 216 | 219 => 241 | 217 => 254 | 225 => 255 | 224 => 256 | 267 => 257 | 266 => 265 | 314 => 266 | n => n, fun | 9 => 9 | 3 => 3 | 4 => 4 | 5 => 5 | 46 => 165 | 146 => 274 | 51 => 206 | n => n, fun | 1 => 3 | n => n⟩
theorem Tryz.lays143 : Go.Proofs.Lays.n143 Tryz.prog Tryz.lays143_ren := {
  mixed := by kernel_rfl
  f143 := Tryz.func216.trans (congrArg some (by kernel_rfl))
  f217 := Tryz.func254.trans (congrArg some (by kernel_rfl))
  f219 := Tryz.func241.trans (congrArg some (by kernel_rfl))
  f224 := Tryz.func256.trans (congrArg some (by kernel_rfl))
  f225 := Tryz.func255.trans (congrArg some (by kernel_rfl))
  f266 := Tryz.func265.trans (congrArg some (by kernel_rfl))
  f267 := Tryz.func257.trans (congrArg some (by kernel_rfl))
  f314 := Tryz.func266.trans (congrArg some (by kernel_rfl))
  t3 := Tryz.underlying3
  a3 := Tryz.isAgg3
  z3 := Tryz.sizeOf3
  v3 := Tryz.zeroValue3
  t4 := Tryz.underlying4
  a4 := Tryz.isAgg4
  z4 := Tryz.sizeOf4
  v4 := Tryz.zeroValue4
  t5 := Tryz.underlying5
  a5 := Tryz.isAgg5
  z5 := Tryz.sizeOf5
  v5 := Tryz.zeroValue5
  t9 := Tryz.underlying9
  a9 := Tryz.isAgg9
  z9 := Tryz.sizeOf9
  v9 := Tryz.zeroValue9
  t46 := Tryz.underlying165
  a46 := Tryz.isAgg165
  z46 := Tryz.sizeOf165
  v46 := Tryz.zeroValue165
  t51 := Tryz.underlying206
  a51 := Tryz.isAgg206
  z51 := Tryz.sizeOf206
  v51 := Tryz.zeroValue206
  t146 := Tryz.underlying274
  a146 := Tryz.isAgg274
  z146 := Tryz.sizeOf274
  v146 := Tryz.zeroValue274
  g1 := by kernel_rfl }
open Go.RowKit Go.Lib in
theorem Tryz.strings_Index_one (s : ByteArray) (c : UInt8) (w : World) :
    Calls Tryz.prog 216 #[.string s, .string ⟨#[c]⟩] w fun e w' => e = .returned (.int .i64 (Lib.indexByte s.data.toList c)) ∧ w' = w := Any.strings_Index_one Tryz.lays143 s c w
def Tryz.lays138_ren : Go.Shelf.Ren := ⟨fun | 138 => 215 | 195 => 246 | 218 => 248 | 143 => 216 | 219 => 241 | 217 => 254 | 225 => 255 | 224 => 256 | 267 => 257 | 266 => 265 | 314 => 266 | n => n, fun | 9 => 9 | 3 => 3 | 4 => 4 | 5 => 5 | 0 => 0 | 46 => 165 | 146 => 274 | 51 => 206 | n => n, fun | 1 => 3 | n => n⟩
theorem Tryz.lays138 : Go.Proofs.Lays.n138 Tryz.prog Tryz.lays138_ren := {
 mixed := by kernel_rfl
 f138 := Tryz.func215.trans (congrArg some (by kernel_rfl))
 f143 := Tryz.func216.trans (congrArg some (by kernel_rfl))
 f195 := Tryz.func246.trans (congrArg some (by kernel_rfl))
 f217 := Tryz.func254.trans (congrArg some (by kernel_rfl))
 f218 := Tryz.func248.trans (congrArg some (by kernel_rfl))
 f219 := Tryz.func241.trans (congrArg some (by kernel_rfl))
 f224 := Tryz.func256.trans (congrArg some (by kernel_rfl))
 f225 := Tryz.func255.trans (congrArg some (by kernel_rfl))
 f266 := Tryz.func265.trans (congrArg some (by kernel_rfl))
 f267 := Tryz.func257.trans (congrArg some (by kernel_rfl))
 f314 := Tryz.func266.trans (congrArg some (by kernel_rfl))
 t0 := Tryz.underlying0
 a0 := Tryz.isAgg0
 z0 := Tryz.sizeOf0
 v0 := Tryz.zeroValue0
 t3 := Tryz.underlying3
 a3 := Tryz.isAgg3
 z3 := Tryz.sizeOf3
 v3 := Tryz.zeroValue3
 t4 := Tryz.underlying4
 a4 := Tryz.isAgg4
 z4 := Tryz.sizeOf4
 v4 := Tryz.zeroValue4
 t5 := Tryz.underlying5
 a5 := Tryz.isAgg5
 z5 := Tryz.sizeOf5
 v5 := Tryz.zeroValue5
 t9 := Tryz.underlying9
 a9 := Tryz.isAgg9
 z9 := Tryz.sizeOf9
 v9 := Tryz.zeroValue9
 t46 := Tryz.underlying165
 a46 := Tryz.isAgg165
 z46 := Tryz.sizeOf165
 v46 := Tryz.zeroValue165
 t51 := Tryz.underlying206
 a51 := Tryz.isAgg206
 z51 := Tryz.sizeOf206
 v51 := Tryz.zeroValue206
 t146 := Tryz.underlying274
 a146 := Tryz.isAgg274
 z146 := Tryz.sizeOf274
 v146 := Tryz.zeroValue274
 g1 := by kernel_rfl }
open Go.RowKit Go.Lib in
theorem Tryz.strings_Count_one (s : ByteArray) (c : UInt8) (w : World) :
    Calls Tryz.prog 215 #[.string s, .string ⟨#[c]⟩] w fun e w' => e = .returned (.int .i64 (Lib.countByte s.data.toList c)) ∧ w' = w := Any.strings_Count_one Tryz.lays138 s c w
def Tryz.lays190_ren : Go.Shelf.Ren := ⟨fun | 190 => 97 | 125 => 113 | 258 => 161 | 128 => 171 | 129 => 172 | 302 => 187 | 303 => 188 | 304 => 189 | 305 => 190 | 306 => 191 | 307 => 192 | 308 => 193 | 309 => 194 | 310 => 195 | 333 => 217 | 329 => 198 | 330 => 199 | 334 => 218 | 335 => 219 | 336 => 220 | 344 => 249 | n => n, fun | 31 => 46 | 9 => 9 | 3 => 3 | 46 => 165 | 0 => 0 | 51 => 206 | 53 => 88 | 4 => 4 | 183 => 199 | 182 => 198 | 131 => 203 | 5 => 5 | 218 => 230 | 222 => 159 | 228 => 252 | 229 => 253 | n => n, fun | n => n⟩
theorem Tryz.lays190 : Go.Proofs.Lays.n190 Tryz.prog Tryz.lays190_ren := {
 mixed := by kernel_rfl
 f125 := Tryz.func113.trans (congrArg some (by kernel_rfl))
 f128 := Tryz.func171.trans (congrArg some (by kernel_rfl))
 f129 := Tryz.func172.trans (congrArg some (by kernel_rfl))
 f190 := Tryz.func97.trans (congrArg some (by kernel_rfl))
 f258 := Tryz.func161.trans (congrArg some (by kernel_rfl))
 f302 := Tryz.func187.trans (congrArg some (by kernel_rfl))
 f303 := Tryz.func188.trans (congrArg some (by kernel_rfl))
 f304 := Tryz.func189.trans (congrArg some (by kernel_rfl))
 f305 := Tryz.func190.trans (congrArg some (by kernel_rfl))
 f306 := Tryz.func191.trans (congrArg some (by kernel_rfl))
 f307 := Tryz.func192.trans (congrArg some (by kernel_rfl))
 f308 := Tryz.func193.trans (congrArg some (by kernel_rfl))
 f309 := Tryz.func194.trans (congrArg some (by kernel_rfl))
 f310 := Tryz.func195.trans (congrArg some (by kernel_rfl))
 f329 := Tryz.func198.trans (congrArg some (by kernel_rfl))
 f330 := Tryz.func199.trans (congrArg some (by kernel_rfl))
 f333 := Tryz.func217.trans (congrArg some (by kernel_rfl))
 f334 := Tryz.func218.trans (congrArg some (by kernel_rfl))
 f335 := Tryz.func219.trans (congrArg some (by kernel_rfl))
 f336 := Tryz.func220.trans (congrArg some (by kernel_rfl))
 f344 := Tryz.func249.trans (congrArg some (by kernel_rfl))
 t0 := Tryz.underlying0
 a0 := Tryz.isAgg0
 z0 := Tryz.sizeOf0
 v0 := Tryz.zeroValue0
 t3 := Tryz.underlying3
 a3 := Tryz.isAgg3
 z3 := Tryz.sizeOf3
 v3 := Tryz.zeroValue3
 t4 := Tryz.underlying4
 a4 := Tryz.isAgg4
 z4 := Tryz.sizeOf4
 v4 := Tryz.zeroValue4
 t5 := Tryz.underlying5
 a5 := Tryz.isAgg5
 z5 := Tryz.sizeOf5
 v5 := Tryz.zeroValue5
 t9 := Tryz.underlying9
 a9 := Tryz.isAgg9
 z9 := Tryz.sizeOf9
 v9 := Tryz.zeroValue9
 t31 := Tryz.underlying46
 a31 := Tryz.isAgg46
 z31 := Tryz.sizeOf46
 v31 := Tryz.zeroValue46
 t46 := Tryz.underlying165
 a46 := Tryz.isAgg165
 z46 := Tryz.sizeOf165
 v46 := Tryz.zeroValue165
 t51 := Tryz.underlying206
 a51 := Tryz.isAgg206
 z51 := Tryz.sizeOf206
 v51 := Tryz.zeroValue206
 t53 := Tryz.underlying88
 a53 := Tryz.isAgg88
 z53 := Tryz.sizeOf88
 v53 := Tryz.zeroValue88
 t131 := Tryz.underlying203
 a131 := Tryz.isAgg203
 z131 := Tryz.sizeOf203
 v131 := Tryz.zeroValue203
 t182 := Tryz.underlying198
 a182 := Tryz.isAgg198
 z182 := Tryz.sizeOf198
 v182 := Tryz.zeroValue198
 t183 := Tryz.underlying199
 a183 := Tryz.isAgg199
 z183 := Tryz.sizeOf199
 v183 := Tryz.zeroValue199
 t218 := Tryz.underlying230
 a218 := Tryz.isAgg230
 z218 := Tryz.sizeOf230
 v218 := Tryz.zeroValue230
 t222 := Tryz.underlying159
 a222 := Tryz.isAgg159
 z222 := Tryz.sizeOf159
 v222 := Tryz.zeroValue159
 t228 := Tryz.underlying252
 a228 := Tryz.isAgg252
 z228 := Tryz.sizeOf252
 v228 := Tryz.zeroValue252
 t229 := Tryz.underlying253
 a229 := Tryz.isAgg253
 z229 := Tryz.sizeOf253
 v229 := Tryz.zeroValue253 }
open Go.Sort Go.RowKit in
theorem Tryz.slices_Sort_string (blk off cap : Nat) (ss : List (List UInt8)) (w : World) (hH : Holds encStr w blk off ss.toArray) (hblk : blk < w.heap.size) (hsz : ss.length < 4611686018427387904) :
    Calls Tryz.prog 97 #[.slice (some ⟨blk, off, none⟩) ss.length cap] w fun e w' =>
      e = .returned (.tuple #[]) ∧ ∃ n os, w' = grow (putRow encStr (Sort.ahead w n) blk off (ss.mergeSort fun x y => decide (x ≤ y)).toArray) os := Any.slices_Sort_string Tryz.lays190 blk off cap ss w hH hblk hsz
def Tryz.lays194_ren : Go.Shelf.Ren := ⟨fun | 194 => 98 | n => n, fun | 31 => 46 | 9 => 9 | 3 => 3 | 4 => 4 | 0 => 0 | n => n, fun | n => n⟩
theorem Tryz.lays194 : Go.Proofs.Lays.n194 Tryz.prog Tryz.lays194_ren := {
  mixed := by kernel_rfl
  f194 := Tryz.func98.trans (congrArg some (by kernel_rfl))
  t0 := Tryz.underlying0
  a0 := Tryz.isAgg0
  z0 := Tryz.sizeOf0
  v0 := Tryz.zeroValue0
  t3 := Tryz.underlying3
  a3 := Tryz.isAgg3
  z3 := Tryz.sizeOf3
  v3 := Tryz.zeroValue3
  t4 := Tryz.underlying4
  a4 := Tryz.isAgg4
  z4 := Tryz.sizeOf4
  v4 := Tryz.zeroValue4
  t9 := Tryz.underlying9
  a9 := Tryz.isAgg9
  z9 := Tryz.sizeOf9
  v9 := Tryz.zeroValue9
  t31 := Tryz.underlying46
  a31 := Tryz.isAgg46
  z31 := Tryz.sizeOf46
  v31 := Tryz.zeroValue46 }
open Go.RowKit Go.Lib Go.Sort in
theorem Tryz.slices_Compact_string (blk off cap : Nat) (zs : List (List UInt8)) (w : World) (hH : Holds encStr w blk off zs.toArray) (hsz : zs.length ≤ 9223372036854775807) (hcap : zs.length ≤ cap) :
    Calls Tryz.prog 98 #[.slice (some ⟨blk, off, none⟩) zs.length cap] w fun e w' => e = .returned (.slice (some ⟨blk, off, none⟩) (Lib.compact zs).length cap) ∧ ∃ q, w' = putRow encStr (Sort.ahead w q) blk off (Lib.compact zs ++ List.replicate (zs.length - (Lib.compact zs).length) []).toArray := Any.slices_Compact_string Tryz.lays194 blk off cap zs w hH hsz hcap
open Go.RowKit Go.Lib Go.Sort in
theorem Tryz.slices_Compact_string_empty (a : Option Addr) (cap : Nat) (w : World) :
    Calls Tryz.prog 98 #[.slice a 0 cap] w fun e w' => e = .returned (.slice a 0 cap) ∧ w' = w := Any.slices_Compact_string_empty Tryz.lays194 a cap w
open Go.RowKit Go.Sort in
theorem Tryz.slices_Sort_string_none (p : Option Addr) (cap : Nat) (w : World) :
    Calls Tryz.prog 97 #[.slice p 0 cap] w fun e w' => e = .returned (.tuple #[]) ∧ w' = w := Any.slices_Sort_string_none Tryz.lays190 p cap w
end Go.Proofs
namespace Go.Proofs.YtaffcjgphlhppaaGreatDoor
open Go Go.Sx Go.Proofs
attribute [local irreducible] Code.wp wpList wpAnyH
open Go.Vs
theorem ij_ (c : UInt8) :
  Fn0 Tryz.prog 206 #[.int .u8 (c.toNat : Int)] (.bool (eJ_ c)) := by
 refine S_ Tryz.func206 rfl rfl Tryz.ntmps206 rfl fun v0 => ?_
 refine g_ (c_ (a_ (e_ rfl) rfl (d_ (b_ rfl (g_ (c_ (a_ (f_ rfl) rfl (E_ (cb_ rfl rfl) rfl fun r1 hr1 => ?_))))))))
 refine a_ (f_ rfl) rfl ?_
 cases r1
 ·
  replace hr1 := of_decide_eq_false hr1
  refine k_ rfl rfl rfl rfl (k_ rfl rfl rfl rfl (a_ (t_ rfl rfl) rfl (a_ (f_ rfl) rfl (i_ rfl rfl (a_ (f_ rfl) rfl (i_ rfl rfl (E_ (cb_ rfl rfl) rfl fun r2 hr2 => ?_)))))))
  refine i_ rfl rfl (a_ (f_ rfl) rfl ?_)
  cases r2
  ·
   replace hr2 := of_decide_eq_false hr2
   refine k_ rfl rfl rfl rfl (k_ rfl rfl rfl rfl (i_ rfl rfl (a_ (t_ rfl rfl) rfl (a_ (t_ rfl rfl) rfl (a_ (e_ rfl) rfl (d_ (b_ rfl (u_ ?_))))))))
   exact Y_ mc_ () (s_ rfl (by subst_vars; rw [Bool.eq_iff_iff]; simp [eJ_] <;> omega)) (.refl _) (fun _ _ _ => trivial)
  ·
   replace hr2 := of_decide_eq_true hr2
   refine i_ rfl rfl (a_ (f_ rfl) rfl (i_ rfl rfl (E_ (cb_ rfl rfl) rfl fun r3 hr3 => ?_)))
   refine i_ rfl rfl (a_ (v_ rfl rfl) rfl (a_ (t_ rfl rfl) rfl (a_ (e_ rfl) rfl (d_ (b_ rfl (u_ ?_))))))
   exact Y_ mc_ () (s_ rfl (by subst_vars; rw [Bool.eq_iff_iff]; simp [eJ_] <;> omega)) (.refl _) (fun _ _ _ => trivial)
 ·
  replace hr1 := of_decide_eq_true hr1
  refine i_ rfl rfl (a_ (f_ rfl) rfl (i_ rfl rfl (E_ (cb_ rfl rfl) rfl fun r4 hr4 => ?_)))
  refine a_ (v_ rfl rfl) rfl (a_ (f_ rfl) rfl ?_)
  cases r4
  ·
   replace hr4 := of_decide_eq_false hr4
   refine i_ rfl rfl (a_ (f_ rfl) rfl (i_ rfl rfl (E_ (cb_ rfl rfl) rfl fun r5 hr5 => ?_)))
   refine i_ rfl rfl (a_ (f_ rfl) rfl ?_)
   cases r5
   ·
    replace hr5 := of_decide_eq_false hr5
    refine k_ rfl rfl rfl rfl (k_ rfl rfl rfl rfl (i_ rfl rfl (a_ (t_ rfl rfl) rfl (a_ (t_ rfl rfl) rfl (a_ (e_ rfl) rfl (d_ (b_ rfl (u_ ?_))))))))
    exact Y_ mc_ () (s_ rfl (by subst_vars; rw [Bool.eq_iff_iff]; simp [eJ_] <;> omega)) (.refl _) (fun _ _ _ => trivial)
   ·
    replace hr5 := of_decide_eq_true hr5
    refine i_ rfl rfl (a_ (f_ rfl) rfl (i_ rfl rfl (E_ (cb_ rfl rfl) rfl fun r6 hr6 => ?_)))
    refine i_ rfl rfl (a_ (v_ rfl rfl) rfl (a_ (t_ rfl rfl) rfl (a_ (e_ rfl) rfl (d_ (b_ rfl (u_ ?_))))))
    exact Y_ mc_ () (s_ rfl (by subst_vars; rw [Bool.eq_iff_iff]; simp [eJ_] <;> omega)) (.refl _) (fun _ _ _ => trivial)
  ·
   replace hr4 := of_decide_eq_true hr4
   refine k_ rfl rfl rfl rfl (k_ rfl rfl rfl rfl (k_ rfl rfl rfl rfl (k_ rfl rfl rfl rfl (k_ rfl rfl rfl rfl (k_ rfl rfl rfl rfl (a_ (v_ rfl rfl) rfl (a_ (e_ rfl) rfl (d_ (b_ rfl ?_)))))))))
   refine u_ ?_
   exact Y_ mc_ () (s_ rfl (by subst_vars; rw [Bool.eq_iff_iff]; simp [eJ_] <;> omega)) (.refl _) (fun _ _ _ => trivial)
theorem kQ_ (s : Str) (hs : s.length ≤ 140737488351232) :
  Fn0 Tryz.prog 207 #[str s] (.bool (iJ_ s)) := by
 refine S_ Tryz.func207 rfl rfl Tryz.ntmps207 rfl fun v0 => ?_
 refine g_ (c_ (a_ (e_ rfl) rfl (d_ (b_ rfl (g_ (g_ (c_ (a_ (f_ rfl) rfl (pj_ aa_ aE_ Tryz.runUnderlying5 rfl rfl fun cap b1 hcap => ?_)))))))))
 refine a_ (aA_ aE_ rfl) rfl (a_ (f_ rfl) rfl (d_ (b_ rfl (ae_ (de_ [(6, .slice (some ⟨b1, 0, none⟩) s.length cap), (7, .int .i64 (s.length : Int)), (8, .int .i64 ((0 : Nat) : Int))] ⟨rfl, rfl, rfl, trivial⟩ ?_)))))
 refine dq_ (ι := {k : Nat // k ≤ s.length ∧ (s.take k).all eP_ = true}) (fun i => [(6, .slice (some ⟨b1, 0, none⟩) s.length cap), (7, .int .i64 (s.length : Int)), (8, .int .i64 (i.1 : Int))]) (fun _ => _) (fun _ => _) (fun i => s.length - i.1) ⟨0, by simp⟩ ?_
 rintro ⟨k, hk⟩
 refine de_ [(6, .slice (some ⟨b1, 0, none⟩) s.length cap), (7, .int .i64 (s.length : Int)), (8, .int .i64 (k : Int))] ⟨rfl, rfl, rfl, trivial⟩ ?_
 refine g_ (c_ (E_ (au_ rfl rfl) rfl fun r1 hr1 => ?_))
 refine d_ (b_ rfl (g_ ?_))
 cases r1
 ·
  replace hr1 := of_decide_eq_false hr1
  refine A_ rfl (bj_ rfl (b_ rfl (g_ (c_ (a_ (e_ rfl) rfl (d_ (b_ rfl (u_ ?_))))))))
  exact Y_ Tryz.results207 () (s_ rfl (by rw [iJ_, jw_ eP_ s k (by omega) hk.2])) (.refl _) (fun _ _ _ => trivial)
 ·
  replace hr1 := of_decide_eq_true hr1
  have hlt : k < s.length := by omega
  obtain ⟨c, hc⟩ : ∃ c, s[k]? = some c := ⟨_, List.getElem?_eq_getElem hlt⟩
  refine w_ rfl (J_ (b_ rfl (g_ (ae_ (g_ (c_ (a_ (gK_ aE_ cI_ rfl rfl (by omega) (by omega)) rfl (a_ (n_ (u := .int .u8 (c.toNat : Int)) 0 Tryz.isAgg5 rfl rfl (by rw [show 0 + ((k : Int)).toNat * 1 = k by omega]; exact oa_ hc)) rfl (a_ (e_ rfl) rfl ?_)))))))))
  refine d_ (b_ rfl (g_ (c_ (a_ (f_ rfl) rfl (ah_ (ij_ c) rfl (.refl _) (fun _ _ _ => trivial) rfl fun r2 hr2 => ?_)))))
  refine a_ (bu_ rfl) rfl (a_ (f_ rfl) rfl ?_)
  cases r2
  ·
   refine i_ rfl rfl (a_ (f_ rfl) rfl (i_ rfl rfl (E_ (bF_ rfl rfl) rfl fun r3 hr3 => ?_)))
   refine a_ (v_ rfl rfl) rfl (a_ (f_ rfl) rfl ?_)
   cases r3
   ·
    replace hr3 := bw_ hr3
    refine k_ rfl rfl rfl rfl (k_ rfl rfl rfl rfl (k_ rfl rfl rfl rfl (k_ rfl rfl rfl rfl (k_ rfl rfl rfl rfl (k_ rfl rfl rfl rfl (a_ (t_ rfl rfl) rfl (d_ (b_ rfl (A_ rfl ?_)))))))))
    refine J_ (b_ rfl (c_ (a_ (ag_ rfl rfl rfl (aS_ (by omega) (by omega))) rfl (a_ (f_ rfl) rfl (d_ (p_ rfl ?_))))))
    exact aU_ ⟨k + 1, hlt, eO_ _ s k c hc hk.2 (by simp [eP_, *] <;> omega)⟩ (by simp; omega) ⟨rfl, rfl, rfl, trivial⟩ (.refl _) (fun _ _ h => h)
   ·
    replace hr3 := bv_ hr3
    refine i_ rfl rfl (a_ (f_ rfl) rfl (i_ rfl rfl (E_ (au_ rfl rfl) rfl fun r4 hr4 => ?_)))
    refine i_ rfl rfl (a_ (f_ rfl) rfl ?_)
    cases r4
    ·
     replace hr4 := of_decide_eq_false hr4
     refine i_ rfl rfl (a_ (f_ rfl) rfl (i_ rfl rfl (E_ (bp_ rfl rfl) rfl fun r5 hr5 => ?_)))
     refine i_ rfl rfl (a_ (t_ rfl rfl) rfl (a_ (v_ rfl rfl) rfl (d_ (b_ rfl ?_))))
     cases r5
     ·
      replace hr5 := of_decide_eq_false hr5
      refine A_ rfl (J_ (b_ rfl (c_ (a_ (ag_ rfl rfl rfl (aS_ (by omega) (by omega))) rfl (a_ (f_ rfl) rfl (d_ (p_ rfl ?_)))))))
      exact aU_ ⟨k + 1, hlt, eO_ _ s k c hc hk.2 (by simp [eP_, *] <;> omega)⟩ (by simp; omega) ⟨rfl, rfl, rfl, trivial⟩ (.refl _) (fun _ _ h => h)
     ·
      replace hr5 := of_decide_eq_true hr5
      refine w_ rfl (g_ (c_ (a_ (e_ rfl) rfl (d_ (b_ rfl (u_ ?_))))))
      exact Y_ Tryz.results207 () (s_ rfl (by rw [iJ_, gm_ eP_ s k c hc (by simp [eP_, *] <;> omega)])) (.refl _) (fun _ _ _ => trivial)
    ·
     replace hr4 := of_decide_eq_true hr4
     refine k_ rfl rfl rfl rfl (k_ rfl rfl rfl rfl (i_ rfl rfl (a_ (v_ rfl rfl) rfl (a_ (v_ rfl rfl) rfl (d_ (b_ rfl (w_ rfl (g_ (c_ ?_)))))))))
     refine a_ (e_ rfl) rfl (d_ (b_ rfl (u_ ?_)))
     exact Y_ Tryz.results207 () (s_ rfl (by rw [iJ_, gm_ eP_ s k c hc (by simp [eP_, *] <;> omega)])) (.refl _) (fun _ _ _ => trivial)
  ·
   refine k_ rfl rfl rfl rfl (k_ rfl rfl rfl rfl (a_ (t_ rfl rfl) rfl (a_ (f_ rfl) rfl (k_ rfl rfl rfl rfl (k_ rfl rfl rfl rfl (k_ rfl rfl rfl rfl (k_ rfl rfl rfl rfl (k_ rfl rfl rfl rfl (k_ rfl rfl rfl rfl ?_)))))))))
   refine a_ (t_ rfl rfl) rfl (d_ (b_ rfl (A_ rfl (J_ (b_ rfl (c_ (a_ (ag_ rfl rfl rfl (aS_ (by omega) (by omega))) rfl (a_ (f_ rfl) rfl (d_ ?_)))))))))
   refine p_ rfl ?_
   exact aU_ ⟨k + 1, hlt, eO_ _ s k c hc hk.2 (by simp [eP_, *] <;> omega)⟩ (by simp; omega) ⟨rfl, rfl, rfl, trivial⟩ (.refl _) (fun _ _ h => h)
theorem mV_ (s : Str) :
  Fn0 Tryz.prog 208 #[str s] (.bool (bT_ s)) := by
 refine S_ Tryz.func208 rfl rfl Tryz.ntmps208 rfl fun v0 => ?_
 refine g_ (c_ (a_ (e_ rfl) rfl (d_ (b_ rfl (g_ (g_ (c_ (a_ (f_ rfl) rfl (d_ ?_)))))))))
 refine b_ rfl (ae_ (g_ (g_ (c_ (E_ (bo_ rfl rfl) rfl fun r1 hr1 => ?_)))))
 refine a_ (e_ rfl) rfl (d_ (b_ rfl ?_))
 cases r1
 ·
  replace hr1 := ne_of_beq_false hr1
  refine A_ rfl (g_ (c_ (E_ (bo_ rfl rfl) rfl fun r2 hr2 => ?_)))
  refine a_ (e_ rfl) rfl (d_ (b_ rfl ?_))
  cases r2
  ·
   replace hr2 := ne_of_beq_false hr2
   refine A_ rfl (g_ (c_ (E_ (bo_ rfl rfl) rfl fun r3 hr3 => ?_)))
   refine a_ (e_ rfl) rfl (d_ (b_ rfl ?_))
   cases r3
   ·
    replace hr3 := ne_of_beq_false hr3
    refine A_ rfl (g_ (c_ (E_ (bo_ rfl rfl) rfl fun r4 hr4 => ?_)))
    refine a_ (e_ rfl) rfl (d_ (b_ rfl ?_))
    cases r4
    ·
     replace hr4 := ne_of_beq_false hr4
     refine A_ rfl (g_ (c_ (E_ (bo_ rfl rfl) rfl fun r5 hr5 => ?_)))
     refine a_ (e_ rfl) rfl (d_ (b_ rfl ?_))
     cases r5
     ·
      replace hr5 := ne_of_beq_false hr5
      refine A_ rfl (g_ (c_ (E_ (bo_ rfl rfl) rfl fun r6 hr6 => ?_)))
      refine a_ (e_ rfl) rfl (d_ (b_ rfl ?_))
      cases r6
      ·
       replace hr6 := ne_of_beq_false hr6
       refine A_ rfl (g_ (c_ (E_ (bo_ rfl rfl) rfl fun r7 hr7 => ?_)))
       refine a_ (e_ rfl) rfl (d_ (b_ rfl ?_))
       cases r7
       ·
        replace hr7 := ne_of_beq_false hr7
        refine A_ rfl (g_ (c_ (E_ (bo_ rfl rfl) rfl fun r8 hr8 => ?_)))
        refine a_ (e_ rfl) rfl (d_ (b_ rfl ?_))
        cases r8
        ·
         replace hr8 := ne_of_beq_false hr8
         refine A_ rfl (g_ (c_ (E_ (bo_ rfl rfl) rfl fun r9 hr9 => ?_)))
         refine a_ (e_ rfl) rfl (d_ (b_ rfl ?_))
         cases r9
         ·
          replace hr9 := ne_of_beq_false hr9
          refine A_ rfl (g_ (c_ (E_ (bo_ rfl rfl) rfl fun r10 hr10 => ?_)))
          refine a_ (e_ rfl) rfl (d_ (b_ rfl ?_))
          cases r10
          ·
           replace hr10 := ne_of_beq_false hr10
           refine A_ rfl (g_ (c_ (E_ (bo_ rfl rfl) rfl fun r11 hr11 => ?_)))
           refine a_ (e_ rfl) rfl (d_ (b_ rfl ?_))
           cases r11
           ·
            replace hr11 := ne_of_beq_false hr11
            refine A_ rfl (g_ (c_ (E_ (bo_ rfl rfl) rfl fun r12 hr12 => ?_)))
            refine a_ (e_ rfl) rfl (d_ (b_ rfl ?_))
            cases r12
            ·
             replace hr12 := ne_of_beq_false hr12
             refine A_ rfl (g_ (c_ (E_ (bo_ rfl rfl) rfl fun r13 hr13 => ?_)))
             refine a_ (e_ rfl) rfl (d_ (b_ rfl ?_))
             cases r13
             ·
              replace hr13 := ne_of_beq_false hr13
              refine A_ rfl (g_ (c_ (E_ (bo_ rfl rfl) rfl fun r14 hr14 => ?_)))
              refine a_ (e_ rfl) rfl (d_ (b_ rfl ?_))
              cases r14
              ·
               replace hr14 := ne_of_beq_false hr14
               refine A_ rfl (g_ (c_ (E_ (bo_ rfl rfl) rfl fun r15 hr15 => ?_)))
               refine a_ (e_ rfl) rfl (d_ (b_ rfl ?_))
               cases r15
               ·
                replace hr15 := ne_of_beq_false hr15
                refine A_ rfl (g_ (c_ (E_ (bo_ rfl rfl) rfl fun r16 hr16 => ?_)))
                refine a_ (e_ rfl) rfl (d_ (b_ rfl ?_))
                cases r16
                ·
                 replace hr16 := ne_of_beq_false hr16
                 refine A_ rfl (g_ (c_ (E_ (bo_ rfl rfl) rfl fun r17 hr17 => ?_)))
                 refine a_ (e_ rfl) rfl (d_ (b_ rfl ?_))
                 cases r17
                 ·
                  replace hr17 := ne_of_beq_false hr17
                  refine A_ rfl (g_ (c_ (E_ (bo_ rfl rfl) rfl fun r18 hr18 => ?_)))
                  refine a_ (e_ rfl) rfl (d_ (b_ rfl ?_))
                  cases r18
                  ·
                   replace hr18 := ne_of_beq_false hr18
                   refine A_ rfl (g_ (c_ (E_ (bo_ rfl rfl) rfl fun r19 hr19 => ?_)))
                   refine a_ (e_ rfl) rfl (d_ (b_ rfl ?_))
                   cases r19
                   ·
                    replace hr19 := ne_of_beq_false hr19
                    refine A_ rfl (g_ (c_ (E_ (bo_ rfl rfl) rfl fun r20 hr20 => ?_)))
                    refine a_ (e_ rfl) rfl (d_ (b_ rfl ?_))
                    cases r20
                    ·
                     replace hr20 := ne_of_beq_false hr20
                     refine A_ rfl (g_ (c_ (E_ (bo_ rfl rfl) rfl fun r21 hr21 => ?_)))
                     refine a_ (e_ rfl) rfl (d_ (b_ rfl ?_))
                     cases r21
                     ·
                      replace hr21 := ne_of_beq_false hr21
                      refine A_ rfl (c_ (E_ (bo_ rfl rfl) rfl fun r22 hr22 => ?_))
                      refine a_ (e_ rfl) rfl (d_ (b_ rfl ?_))
                      cases r22
                      ·
                       replace hr22 := ne_of_beq_false hr22
                       refine A_ rfl (J_ (b_ rfl (g_ (c_ (a_ (e_ rfl) rfl (d_ (b_ rfl (u_ ?_))))))))
                       exact Y_ bh_ () (s_ rfl (by simp [bT_, kws, *])) (.refl _) (fun _ _ _ => trivial)
                      ·
                       replace hr22 := eq_of_beq hr22
                       refine w_ rfl (g_ (c_ (a_ (e_ rfl) rfl (d_ (b_ rfl (u_ ?_))))))
                       exact Y_ bh_ () (s_ rfl (by simp [bT_, kws, *])) (.refl _) (fun _ _ _ => trivial)
                     ·
                      replace hr21 := eq_of_beq hr21
                      refine w_ rfl (J_ (b_ rfl (w_ rfl (g_ (c_ (a_ (e_ rfl) rfl (d_ (b_ rfl (u_ ?_)))))))))
                      exact Y_ bh_ () (s_ rfl (by simp [bT_, kws, *])) (.refl _) (fun _ _ _ => trivial)
                    ·
                     replace hr20 := eq_of_beq hr20
                     refine w_ rfl (J_ (b_ rfl (w_ rfl (g_ (c_ (a_ (e_ rfl) rfl (d_ (b_ rfl (u_ ?_)))))))))
                     exact Y_ bh_ () (s_ rfl (by simp [bT_, kws, *])) (.refl _) (fun _ _ _ => trivial)
                   ·
                    replace hr19 := eq_of_beq hr19
                    refine w_ rfl (J_ (b_ rfl (w_ rfl (g_ (c_ (a_ (e_ rfl) rfl (d_ (b_ rfl (u_ ?_)))))))))
                    exact Y_ bh_ () (s_ rfl (by simp [bT_, kws, *])) (.refl _) (fun _ _ _ => trivial)
                  ·
                   replace hr18 := eq_of_beq hr18
                   refine w_ rfl (J_ (b_ rfl (w_ rfl (g_ (c_ (a_ (e_ rfl) rfl (d_ (b_ rfl (u_ ?_)))))))))
                   exact Y_ bh_ () (s_ rfl (by simp [bT_, kws, *])) (.refl _) (fun _ _ _ => trivial)
                 ·
                  replace hr17 := eq_of_beq hr17
                  refine w_ rfl (J_ (b_ rfl (w_ rfl (g_ (c_ (a_ (e_ rfl) rfl (d_ (b_ rfl (u_ ?_)))))))))
                  exact Y_ bh_ () (s_ rfl (by simp [bT_, kws, *])) (.refl _) (fun _ _ _ => trivial)
                ·
                 replace hr16 := eq_of_beq hr16
                 refine w_ rfl (J_ (b_ rfl (w_ rfl (g_ (c_ (a_ (e_ rfl) rfl (d_ (b_ rfl (u_ ?_)))))))))
                 exact Y_ bh_ () (s_ rfl (by simp [bT_, kws, *])) (.refl _) (fun _ _ _ => trivial)
               ·
                replace hr15 := eq_of_beq hr15
                refine w_ rfl (J_ (b_ rfl (w_ rfl (g_ (c_ (a_ (e_ rfl) rfl (d_ (b_ rfl (u_ ?_)))))))))
                exact Y_ bh_ () (s_ rfl (by simp [bT_, kws, *])) (.refl _) (fun _ _ _ => trivial)
              ·
               replace hr14 := eq_of_beq hr14
               refine w_ rfl (J_ (b_ rfl (w_ rfl (g_ (c_ (a_ (e_ rfl) rfl (d_ (b_ rfl (u_ ?_)))))))))
               exact Y_ bh_ () (s_ rfl (by simp [bT_, kws, *])) (.refl _) (fun _ _ _ => trivial)
             ·
              replace hr13 := eq_of_beq hr13
              refine w_ rfl (J_ (b_ rfl (w_ rfl (g_ (c_ (a_ (e_ rfl) rfl (d_ (b_ rfl (u_ ?_)))))))))
              exact Y_ bh_ () (s_ rfl (by simp [bT_, kws, *])) (.refl _) (fun _ _ _ => trivial)
            ·
             replace hr12 := eq_of_beq hr12
             refine w_ rfl (J_ (b_ rfl (w_ rfl (g_ (c_ (a_ (e_ rfl) rfl (d_ (b_ rfl (u_ ?_)))))))))
             exact Y_ bh_ () (s_ rfl (by simp [bT_, kws, *])) (.refl _) (fun _ _ _ => trivial)
           ·
            replace hr11 := eq_of_beq hr11
            refine w_ rfl (J_ (b_ rfl (w_ rfl (g_ (c_ (a_ (e_ rfl) rfl (d_ (b_ rfl (u_ ?_)))))))))
            exact Y_ bh_ () (s_ rfl (by simp [bT_, kws, *])) (.refl _) (fun _ _ _ => trivial)
          ·
           replace hr10 := eq_of_beq hr10
           refine w_ rfl (J_ (b_ rfl (w_ rfl (g_ (c_ (a_ (e_ rfl) rfl (d_ (b_ rfl (u_ ?_)))))))))
           exact Y_ bh_ () (s_ rfl (by simp [bT_, kws, *])) (.refl _) (fun _ _ _ => trivial)
         ·
          replace hr9 := eq_of_beq hr9
          refine w_ rfl (J_ (b_ rfl (w_ rfl (g_ (c_ (a_ (e_ rfl) rfl (d_ (b_ rfl (u_ ?_)))))))))
          exact Y_ bh_ () (s_ rfl (by simp [bT_, kws, *])) (.refl _) (fun _ _ _ => trivial)
        ·
         replace hr8 := eq_of_beq hr8
         refine w_ rfl (J_ (b_ rfl (w_ rfl (g_ (c_ (a_ (e_ rfl) rfl (d_ (b_ rfl (u_ ?_)))))))))
         exact Y_ bh_ () (s_ rfl (by simp [bT_, kws, *])) (.refl _) (fun _ _ _ => trivial)
       ·
        replace hr7 := eq_of_beq hr7
        refine w_ rfl (J_ (b_ rfl (w_ rfl (g_ (c_ (a_ (e_ rfl) rfl (d_ (b_ rfl (u_ ?_)))))))))
        exact Y_ bh_ () (s_ rfl (by simp [bT_, kws, *])) (.refl _) (fun _ _ _ => trivial)
      ·
       replace hr6 := eq_of_beq hr6
       refine w_ rfl (J_ (b_ rfl (w_ rfl (g_ (c_ (a_ (e_ rfl) rfl (d_ (b_ rfl (u_ ?_)))))))))
       exact Y_ bh_ () (s_ rfl (by simp [bT_, kws, *])) (.refl _) (fun _ _ _ => trivial)
     ·
      replace hr5 := eq_of_beq hr5
      refine w_ rfl (J_ (b_ rfl (w_ rfl (g_ (c_ (a_ (e_ rfl) rfl (d_ (b_ rfl (u_ ?_)))))))))
      exact Y_ bh_ () (s_ rfl (by simp [bT_, kws, *])) (.refl _) (fun _ _ _ => trivial)
    ·
     replace hr4 := eq_of_beq hr4
     refine w_ rfl (J_ (b_ rfl (w_ rfl (g_ (c_ (a_ (e_ rfl) rfl (d_ (b_ rfl (u_ ?_)))))))))
     exact Y_ bh_ () (s_ rfl (by simp [bT_, kws, *])) (.refl _) (fun _ _ _ => trivial)
   ·
    replace hr3 := eq_of_beq hr3
    refine w_ rfl (J_ (b_ rfl (w_ rfl (g_ (c_ (a_ (e_ rfl) rfl (d_ (b_ rfl (u_ ?_)))))))))
    exact Y_ bh_ () (s_ rfl (by simp [bT_, kws, *])) (.refl _) (fun _ _ _ => trivial)
  ·
   replace hr2 := eq_of_beq hr2
   refine w_ rfl (J_ (b_ rfl (w_ rfl (g_ (c_ (a_ (e_ rfl) rfl (d_ (b_ rfl (u_ ?_)))))))))
   exact Y_ bh_ () (s_ rfl (by simp [bT_, kws, *])) (.refl _) (fun _ _ _ => trivial)
 ·
  replace hr1 := eq_of_beq hr1
  refine w_ rfl (J_ (b_ rfl (w_ rfl (g_ (c_ (a_ (e_ rfl) rfl (d_ (b_ rfl (u_ ?_)))))))))
  exact Y_ bh_ () (s_ rfl (by simp [bT_, kws, *])) (.refl _) (fun _ _ _ => trivial)
end Go.Proofs.YtaffcjgphlhppaaGreatDoor
namespace Go.Proofs.YtaffcjgphlhppaaGreatDoor
open Go Go.Sx Go.Proofs
attribute [local irreducible] Code.wp wpList wpAnyH
open Go.Vs
theorem ii_ (s : Str) (hs : s.length ≤ 140737488351232) :
    Fn0 Tryz.prog 177 #[str s] (.bool (gZ_ s)) := by
  refine S_ Tryz.func177 rfl rfl Tryz.ntmps177 rfl fun v0 => ?_
  refine g_ (c_ (a_ (e_ rfl) rfl (d_ (b_ rfl (g_ (c_ (a_ (f_ rfl) rfl (E_ (fv_ rfl rfl) rfl fun r1 hr1 => ?_))))))))
  refine a_ (f_ rfl) rfl ?_
  cases r1
  · skip
    replace hr1 := bw_ hr1
    refine k_ rfl rfl rfl rfl (k_ rfl rfl rfl rfl (k_ rfl rfl rfl rfl (a_ (t_ rfl rfl) rfl (a_ (f_ rfl) rfl (k_ rfl rfl rfl rfl (k_ rfl rfl rfl rfl (a_ (t_ rfl rfl) rfl (a_ (f_ rfl) rfl (k_ rfl rfl rfl rfl ?_)))))))))
    refine k_ rfl rfl rfl rfl (k_ rfl rfl rfl rfl (a_ (t_ rfl rfl) rfl (a_ (e_ rfl) rfl (d_ (b_ rfl (u_ ?_))))))
    exact Y_ Tryz.results177 () (s_ rfl (by simp [gZ_, *])) (.refl _) (fun _ _ _ => trivial)
  · skip
    replace hr1 := bv_ hr1
    obtain ⟨c, t, rfl⟩ := List.exists_cons_of_ne_nil hr1
    refine i_ rfl rfl (a_ (f_ rfl) rfl (i_ rfl rfl (a_ (ck_ aa_ rfl rfl (by decide) rfl) rfl (i_ rfl rfl (ah_ (ij_ _) rfl (.refl _) (fun _ _ _ => trivial) rfl fun r2 hr2 => ?_)))))
    refine a_ (v_ rfl rfl) rfl (a_ (f_ rfl) rfl ?_)
    cases r2
    · skip
      refine k_ rfl rfl rfl rfl (k_ rfl rfl rfl rfl (a_ (t_ rfl rfl) rfl (a_ (f_ rfl) rfl (k_ rfl rfl rfl rfl (k_ rfl rfl rfl rfl (k_ rfl rfl rfl rfl (a_ (t_ rfl rfl) rfl (a_ (e_ rfl) rfl (d_ ?_)))))))))
      refine b_ rfl (u_ ?_)
      exact Y_ Tryz.results177 () (s_ rfl (by simp [gZ_, *])) (.refl _) (fun _ _ _ => trivial)
    · skip
      refine i_ rfl rfl (a_ (f_ rfl) rfl (i_ rfl rfl (ah_ (kQ_ _ (by assumption)) rfl (.refl _) (fun _ _ _ => trivial) rfl fun r3 hr3 => ?_)))
      refine a_ (v_ rfl rfl) rfl (a_ (f_ rfl) rfl ?_)
      cases r3
      · skip
        refine k_ rfl rfl rfl rfl (k_ rfl rfl rfl rfl (k_ rfl rfl rfl rfl (a_ (t_ rfl rfl) rfl (a_ (e_ rfl) rfl (d_ (b_ rfl (u_ ?_)))))))
        exact Y_ Tryz.results177 () (s_ rfl (by simp [gZ_, *])) (.refl _) (fun _ _ _ => trivial)
      · skip
        refine i_ rfl rfl (a_ (f_ rfl) rfl (i_ rfl rfl (ah_ (mV_ _) rfl (.refl _) (fun _ _ _ => trivial) rfl fun r4 hr4 => ?_)))
        refine i_ rfl rfl (a_ (bu_ rfl) rfl (a_ (v_ rfl rfl) rfl (a_ (e_ rfl) rfl (d_ (b_ rfl (u_ ?_))))))
        exact Y_ Tryz.results177 () (s_ rfl (by simp [gZ_, *])) (.refl _) (fun _ _ _ => trivial)
theorem fo_ (s : Str) (hs : s.length ≤ 140737488351232) :
    Fn0 Tryz.prog 178 #[str s] (.bool (cF_ s)) := by
  refine S_ Tryz.func178 rfl rfl Tryz.ntmps178 rfl fun v0 => ?_
  refine g_ (c_ (a_ (e_ rfl) rfl (d_ (b_ rfl (g_ (c_ (a_ (f_ rfl) rfl (a_ (cd_ aa_ rfl) rfl (E_ (cw_ rfl rfl) rfl fun r1 hr1 => ?_)))))))))
  refine a_ (f_ rfl) rfl ?_
  cases r1
  · skip
    replace hr1 := of_decide_eq_false hr1
    refine k_ rfl rfl rfl rfl (k_ rfl rfl rfl rfl (k_ rfl rfl rfl rfl (a_ (t_ rfl rfl) rfl (a_ (f_ rfl) rfl (k_ rfl rfl rfl rfl (k_ rfl rfl rfl rfl (k_ rfl rfl rfl rfl (a_ (t_ rfl rfl) rfl (a_ (f_ rfl) rfl ?_)))))))))
    refine k_ rfl rfl rfl rfl (k_ rfl rfl rfl rfl (a_ (t_ rfl rfl) rfl (a_ (e_ rfl) rfl (d_ (b_ rfl (u_ ?_))))))
    exact Y_ Tryz.results178 () (s_ rfl (by subst_vars; rw [Bool.eq_iff_iff]; simp [cF_] <;> simp at * <;> omega)) (.refl _) (fun _ _ _ => trivial)
  · skip
    replace hr1 := of_decide_eq_true hr1
    refine i_ rfl rfl (a_ (f_ rfl) rfl (i_ rfl rfl (a_ (cd_ aa_ rfl) rfl (i_ rfl rfl (E_ (cb_ rfl rfl) rfl fun r2 hr2 => ?_)))))
    refine a_ (v_ rfl rfl) rfl (a_ (f_ rfl) rfl ?_)
    cases r2
    · skip
      replace hr2 := of_decide_eq_false hr2
      refine k_ rfl rfl rfl rfl (k_ rfl rfl rfl rfl (k_ rfl rfl rfl rfl (a_ (t_ rfl rfl) rfl (a_ (f_ rfl) rfl (k_ rfl rfl rfl rfl (k_ rfl rfl rfl rfl (a_ (t_ rfl rfl) rfl (a_ (e_ rfl) rfl (d_ ?_)))))))))
      refine b_ rfl (u_ ?_)
      exact Y_ Tryz.results178 () (s_ rfl (by subst_vars; rw [Bool.eq_iff_iff]; simp [cF_] <;> simp at * <;> omega)) (.refl _) (fun _ _ _ => trivial)
    · skip
      replace hr2 := of_decide_eq_true hr2
      obtain ⟨c, t, rfl⟩ := List.exists_cons_of_length_pos (l := s) (by omega)
      refine i_ rfl rfl (a_ (f_ rfl) rfl (i_ rfl rfl (a_ (ck_ aa_ rfl rfl (by decide) rfl) rfl (i_ rfl rfl (E_ (aG_ rfl rfl) rfl fun r3 hr3 => ?_)))))
      refine a_ (v_ rfl rfl) rfl (a_ (f_ rfl) rfl ?_)
      cases r3
      · skip
        replace hr3 := ne_of_beq_false hr3
        refine k_ rfl rfl rfl rfl (k_ rfl rfl rfl rfl (a_ (t_ rfl rfl) rfl (a_ (e_ rfl) rfl (d_ (b_ rfl (u_ ?_))))))
        exact Y_ Tryz.results178 () (s_ rfl (by subst_vars; rw [Bool.eq_iff_iff]; simp [cF_] <;> simp at * <;> omega)) (.refl _) (fun _ _ _ => trivial)
      · skip
        replace hr3 := eq_of_beq hr3
        refine i_ rfl rfl (a_ (f_ rfl) rfl (i_ rfl rfl (ah_ (kQ_ _ (by assumption)) rfl (.refl _) (fun _ _ _ => trivial) rfl fun r4 hr4 => ?_)))
        refine a_ (v_ rfl rfl) rfl (a_ (e_ rfl) rfl (d_ (b_ rfl (u_ ?_))))
        exact Y_ Tryz.results178 () (s_ rfl (by subst_vars; rw [Bool.eq_iff_iff]; simp [cF_] <;> simp at * <;> omega)) (.refl _) (fun _ _ _ => trivial)
theorem hh_ (s : Str) (c : UInt8) : Fn0 Tryz.prog 241 #[str s, str [c]] (.int .i64 (Lib.indexByte s c)) :=
  fr_ (callable Tryz.func241 rfl rfl) fun w => (Tryz.stringslite_Index_one ⟨s.toArray⟩ c w).mono (by rintro e w' ⟨rfl, rfl⟩; exact ⟨rfl, rfl, rfl, rfl, rfl, Nat.le_refl _⟩)
theorem jS_ (s : Str) (c : UInt8) (hk : ixS c s = none) : Fn0 Tryz.prog 241 #[str s, str [c]] (.int .i64 (-1)) := by
  have h := hh_ s c
  rw [hw_, hk] at h
  exact h
theorem jR_ (s : Str) (c : UInt8) (k : Nat) (hk : ixS c s = some k) : Fn0 Tryz.prog 241 #[str s, str [c]] (.int .i64 (k : Int)) := by
  have h := hh_ s c
  rw [hw_, hk] at h
  exact h
theorem ni_ (s : Str) (c : UInt8) (hk : ixS c s = none) :
    Fn0 Tryz.prog 205 #[str s, str [c]] (.tuple #[str s, str [], .bool false]) := by
  refine S_ Tryz.func205 rfl rfl Tryz.ntmps205 rfl fun v0 => ?_
  refine g_ (c_ (a_ (e_ rfl) rfl (a_ (e_ rfl) rfl (a_ (e_ rfl) rfl (d_ (b_ rfl (g_ (g_ (c_ ?_)))))))))
  refine a_ (f_ rfl) rfl (a_ (f_ rfl) rfl (K_ (jS_ s c hk) rfl (.refl _) (fun _ _ _ => trivial) rfl fun _ => ?_))
  refine a_ (e_ rfl) rfl (d_ (b_ rfl (g_ (c_ (a_ (f_ rfl) rfl (E_ (cw_ rfl rfl) rfl fun r1 hr1 => ?_))))))
  refine d_ (b_ rfl ?_)
  cases r1
  · skip
    replace hr1 := of_decide_eq_false hr1
    refine A_ rfl (J_ (b_ rfl (g_ (c_ (a_ (f_ rfl) rfl (a_ (e_ rfl) rfl (a_ (e_ rfl) rfl (a_ (e_ rfl) rfl (d_ ?_)))))))))
    refine b_ rfl (u_ ?_)
    exact nP_ Tryz.results205 () rfl rfl rfl rfl (.refl _) (fun _ _ _ => trivial)
  · skip
    replace hr1 := of_decide_eq_true hr1
    exact absurd hr1 (by decide)
theorem nh_ (s : Str) (c : UInt8) (k : Nat) (hk : ixS c s = some k) (hl : k < s.length) (hs : s.length ≤ 140737488351232) :
    Fn0 Tryz.prog 205 #[str s, str [c]] (.tuple #[str (s.take k), str (s.drop (k + 1)), .bool true]) := by
  refine S_ Tryz.func205 rfl rfl Tryz.ntmps205 rfl fun v0 => ?_
  refine g_ (c_ (a_ (e_ rfl) rfl (a_ (e_ rfl) rfl (a_ (e_ rfl) rfl (d_ (b_ rfl (g_ (g_ (c_ ?_)))))))))
  refine a_ (f_ rfl) rfl (a_ (f_ rfl) rfl (K_ (jR_ s c k hk) rfl (.refl _) (fun _ _ _ => trivial) rfl fun _ => ?_))
  refine a_ (e_ rfl) rfl (d_ (b_ rfl (g_ (c_ (a_ (f_ rfl) rfl (E_ (cw_ rfl rfl) rfl fun r1 hr1 => ?_))))))
  refine d_ (b_ rfl ?_)
  cases r1
  · skip
    replace hr1 := of_decide_eq_false hr1
    exact absurd (by omega) hr1
  · skip
    replace hr1 := of_decide_eq_true hr1
    refine w_ rfl (g_ ?_)
    refine aW_ (by kernel_rfl) ?_
    refine P_ 0 [0, 1, 2, 3, 4, 5, 6, 7, 8, 9, 10, 11] (by kernel_rfl) (fun _ a b => ⟨a, b⟩) (m_ rfl (f_ rfl) rfl (m_ rfl (f_ rfl) rfl (m_ rfl (dP_ (i := 0) (j := k) (kl := .i64) aa_ rfl rfl rfl (by omega) (by omega)) rfl (m_ rfl (f_ rfl) rfl (m_ rfl (f_ rfl) rfl (m_ rfl (f_ rfl) rfl (m_ rfl (cd_ aa_ rfl) rfl (m_ rfl (ag_ rfl rfl rfl (aS_ (by simp only [List.length_cons, List.length_nil]; omega) (by simp only [List.length_cons, List.length_nil]; omega))) rfl (m_ rfl (dP_ (i := k + 1) (j := s.length) (kh := .i64) aa_ rfl rfl rfl (by omega) (by omega)) rfl ?_)))))))))
    refine m_ rfl (e_ rfl) rfl (m_ rfl (e_ rfl) rfl (m_ rfl (e_ rfl) rfl (O_ (T_ (by kernel_rfl) (b_ rfl (u_ ?_))))))
    exact nP_ Tryz.results205 () rfl rfl rfl (by simp [List.take_of_length_le]) (.refl _) (fun _ _ _ => trivial)
theorem oE_ (s : Str) (c : UInt8) (hk : ixS c s = none) :
    Fn0 Tryz.prog 176 #[str s, str [c]] (.tuple #[str s, str [], .bool false]) := by
  refine S_ Tryz.func176 rfl rfl Tryz.ntmps176 rfl fun v0 => ?_
  refine g_ (c_ (a_ (e_ rfl) rfl (a_ (e_ rfl) rfl (a_ (e_ rfl) rfl (d_ (b_ rfl (g_ (c_ (a_ (f_ rfl) rfl ?_)))))))))
  refine a_ (f_ rfl) rfl (K_ (ni_ s c hk) rfl (.refl _) (fun _ _ _ => trivial) rfl fun _ => ?_)
  refine a_ (V_ rfl rfl) rfl (a_ (V_ rfl rfl) rfl (a_ (V_ rfl rfl) rfl (a_ (e_ rfl) rfl (a_ (e_ rfl) rfl (a_ (e_ rfl) rfl (d_ (b_ rfl (u_ ?_))))))))
  exact nP_ Tryz.results176 () rfl rfl rfl rfl (.refl _) (fun _ _ _ => trivial)
theorem jP_ (s : Str) (hk : ixS 58 s = none) :
    Fn0 Tryz.prog 122 #[str s] (.bool (cz_ s)) := by
  refine S_ Tryz.func122 rfl rfl Tryz.ntmps122 rfl fun v0 => ?_
  refine g_ (c_ (a_ (e_ rfl) rfl (d_ (b_ rfl (g_ (g_ (c_ (a_ (f_ rfl) rfl (a_ (cd_ aa_ rfl) rfl ?_)))))))))
  refine E_ (bp_ rfl rfl) rfl fun r1 hr1 => ?_
  refine d_ (b_ rfl ?_)
  cases r1
  · skip
    replace hr1 := of_decide_eq_false hr1
    refine A_ rfl (J_ (b_ rfl (g_ (c_ (a_ (f_ rfl) rfl (K_ (oE_ s 58 hk) rfl (.refl _) (fun _ _ _ => trivial) rfl fun _ => ?_))))))
    refine a_ (f_ rfl) rfl (a_ (V_ rfl rfl) rfl (a_ (V_ rfl rfl) rfl (a_ (V_ rfl rfl) rfl (a_ (e_ rfl) rfl (a_ (e_ rfl) rfl (a_ (e_ rfl) rfl (d_ (b_ rfl (g_ ?_)))))))))
    refine c_ (a_ (f_ rfl) rfl (ah_ (ii_ _ (by first | omega | (simp; omega))) rfl (.refl _) (fun _ _ _ => trivial) rfl fun r2 hr2 => ?_))
    refine a_ (f_ rfl) rfl ?_
    cases r2
    · skip
      refine k_ rfl rfl rfl rfl (k_ rfl rfl rfl rfl (k_ rfl rfl rfl rfl (k_ rfl rfl rfl rfl (k_ rfl rfl rfl rfl (k_ rfl rfl rfl rfl (a_ (t_ rfl rfl) rfl (a_ (e_ rfl) rfl (d_ (b_ rfl ?_)))))))))
      refine u_ ?_
      exact Y_ gQ_ () (s_ rfl (by simp [cz_, *] <;> omega)) (.refl _) (fun _ _ _ => trivial)
    · skip
      refine i_ rfl rfl (a_ (f_ rfl) rfl (i_ rfl rfl (a_ (bu_ rfl) rfl (i_ rfl rfl (a_ (f_ rfl) rfl (k_ rfl rfl rfl rfl (k_ rfl rfl rfl rfl (i_ rfl rfl (a_ (v_ rfl rfl) rfl ?_)))))))))
      refine a_ (v_ rfl rfl) rfl (a_ (e_ rfl) rfl (d_ (b_ rfl (u_ ?_))))
      exact Y_ gQ_ () (s_ rfl (by simp [cz_, *] <;> omega)) (.refl _) (fun _ _ _ => trivial)
  · skip
    replace hr1 := of_decide_eq_true hr1
    refine w_ rfl (g_ (c_ (a_ (e_ rfl) rfl (d_ (b_ rfl (u_ ?_))))))
    exact Y_ gQ_ () (s_ rfl (by simp [cz_, *] <;> omega)) (.refl _) (fun _ _ _ => trivial)
theorem oD_ (s : Str) (c : UInt8) (k : Nat) (hk : ixS c s = some k) (hl : k < s.length) (hs : s.length ≤ 140737488351232) :
    Fn0 Tryz.prog 176 #[str s, str [c]] (.tuple #[str (s.take k), str (s.drop (k + 1)), .bool true]) := by
  refine S_ Tryz.func176 rfl rfl Tryz.ntmps176 rfl fun v0 => ?_
  refine g_ (c_ (a_ (e_ rfl) rfl (a_ (e_ rfl) rfl (a_ (e_ rfl) rfl (d_ (b_ rfl (g_ (c_ (a_ (f_ rfl) rfl ?_)))))))))
  refine a_ (f_ rfl) rfl (K_ (nh_ s c k hk hl hs) rfl (.refl _) (fun _ _ _ => trivial) rfl fun _ => ?_)
  refine a_ (V_ rfl rfl) rfl (a_ (V_ rfl rfl) rfl (a_ (V_ rfl rfl) rfl (a_ (e_ rfl) rfl (a_ (e_ rfl) rfl (a_ (e_ rfl) rfl (d_ (b_ rfl (u_ ?_))))))))
  exact nP_ Tryz.results176 () rfl rfl rfl rfl (.refl _) (fun _ _ _ => trivial)
theorem jO_ (s : Str) (k : Nat) (hk : ixS 58 s = some k) (hl : k < s.length) :
    Fn0 Tryz.prog 122 #[str s] (.bool (cz_ s)) := by
  refine S_ Tryz.func122 rfl rfl Tryz.ntmps122 rfl fun v0 => ?_
  refine g_ (c_ (a_ (e_ rfl) rfl (d_ (b_ rfl (g_ (g_ (c_ (a_ (f_ rfl) rfl (a_ (cd_ aa_ rfl) rfl ?_)))))))))
  refine E_ (bp_ rfl rfl) rfl fun r1 hr1 => ?_
  refine d_ (b_ rfl ?_)
  cases r1
  · skip
    replace hr1 := of_decide_eq_false hr1
    refine A_ rfl (J_ (b_ rfl (g_ (c_ (a_ (f_ rfl) rfl (K_ (oD_ s 58 k hk hl (by omega)) rfl (.refl _) (fun _ _ _ => trivial) rfl fun _ => ?_))))))
    refine a_ (f_ rfl) rfl (a_ (V_ rfl rfl) rfl (a_ (V_ rfl rfl) rfl (a_ (V_ rfl rfl) rfl (a_ (e_ rfl) rfl (a_ (e_ rfl) rfl (a_ (e_ rfl) rfl (d_ (b_ rfl (g_ ?_)))))))))
    refine c_ (a_ (f_ rfl) rfl (ah_ (ii_ _ (by first | omega | (simp; omega))) rfl (.refl _) (fun _ _ _ => trivial) rfl fun r2 hr2 => ?_))
    refine a_ (f_ rfl) rfl ?_
    cases r2
    · skip
      refine k_ rfl rfl rfl rfl (k_ rfl rfl rfl rfl (k_ rfl rfl rfl rfl (k_ rfl rfl rfl rfl (k_ rfl rfl rfl rfl (k_ rfl rfl rfl rfl (a_ (t_ rfl rfl) rfl (a_ (e_ rfl) rfl (d_ (b_ rfl ?_)))))))))
      refine u_ ?_
      exact Y_ gQ_ () (s_ rfl (by simp [cz_, *] <;> omega)) (.refl _) (fun _ _ _ => trivial)
    · skip
      refine i_ rfl rfl (a_ (f_ rfl) rfl (i_ rfl rfl (a_ (bu_ rfl) rfl (i_ rfl rfl (a_ (f_ rfl) rfl (i_ rfl rfl (a_ (f_ rfl) rfl (i_ rfl rfl (ah_ (ii_ _ (by first | omega | (simp; omega))) rfl (.refl _) (fun _ _ _ => trivial) rfl fun r3 hr3 => ?_)))))))))
      refine i_ rfl rfl (a_ (t_ rfl rfl) rfl (a_ (v_ rfl rfl) rfl (a_ (e_ rfl) rfl (d_ (b_ rfl (u_ ?_))))))
      exact Y_ gQ_ () (s_ rfl (by simp [cz_, *] <;> omega)) (.refl _) (fun _ _ _ => trivial)
  · skip
    replace hr1 := of_decide_eq_true hr1
    refine w_ rfl (g_ (c_ (a_ (e_ rfl) rfl (d_ (b_ rfl (u_ ?_))))))
    exact Y_ gQ_ () (s_ rfl (by simp [cz_, *] <;> omega)) (.refl _) (fun _ _ _ => trivial)
theorem eZ_ (s : Str) : Fn0 Tryz.prog 122 #[str s] (.bool (cz_ s)) := by
  cases hk : ixS 58 s with
  | none => exact jP_ s hk
  | some k => exact jO_ s k hk (lF_ hk)
theorem eM_ (s : Str) (hs : s.length ≤ 140737488351232) :
    Fn0 Tryz.prog 123 #[str s] (.int .i64 (if bG_ s then 0 else 20)) := by
  refine S_ Tryz.func123 rfl rfl Tryz.ntmps123 rfl fun v0 => ?_
  refine g_ (c_ (a_ (e_ rfl) rfl (d_ (b_ rfl (g_ (g_ (c_ (a_ (f_ rfl) rfl (ah_ (eZ_ _) rfl (.refl _) (fun _ _ _ => trivial) rfl fun r1 hr1 => ?_)))))))))
  refine a_ (f_ rfl) rfl ?_
  cases r1
  · skip
    refine i_ rfl rfl (a_ (f_ rfl) rfl (i_ rfl rfl (ah_ (fo_ _ hs) rfl (.refl _) (fun _ _ _ => trivial) rfl fun r2 hr2 => ?_)))
    refine a_ (t_ rfl rfl) rfl (d_ (b_ rfl ?_))
    cases r2
    · skip
      refine A_ rfl (J_ (b_ rfl (g_ (c_ (a_ (e_ rfl) rfl (d_ (b_ rfl (u_ ?_))))))))
      exact Y_ Tryz.results123 () (aH_ rfl (by simp [bG_, *])) (.refl _) (fun _ _ _ => trivial)
    · skip
      refine w_ rfl (g_ (c_ (a_ (e_ rfl) rfl (d_ (b_ rfl (u_ ?_))))))
      exact Y_ Tryz.results123 () (aH_ rfl (by simp [bG_, *])) (.refl _) (fun _ _ _ => trivial)
  · skip
    refine k_ rfl rfl rfl rfl (k_ rfl rfl rfl rfl (a_ (v_ rfl rfl) rfl (d_ (b_ rfl (w_ rfl (g_ (c_ (a_ (e_ rfl) rfl (d_ ?_)))))))))
    refine b_ rfl (u_ ?_)
    exact Y_ Tryz.results123 () (aH_ rfl (by simp [bG_, *])) (.refl _) (fun _ _ _ => trivial)
theorem dA_ (s : Str) (hs : s.length ≤ 140737488351232) :
    Fn0 Tryz.prog 85 #[str s] (.bool (bG_ s)) := by
  refine S_ Tryz.func85 rfl rfl Tryz.ntmps85 rfl fun v0 => ?_
  refine g_ (c_ (a_ (e_ rfl) rfl (d_ (b_ rfl (g_ (c_ (a_ (f_ rfl) rfl (K_ (eM_ s hs) rfl (.refl _) (fun _ _ _ => trivial) rfl fun _ => ?_))))))))
  refine E_ (aG_ rfl rfl) rfl fun r1 hr1 => ?_
  refine a_ (e_ rfl) rfl (d_ (b_ rfl (u_ ?_)))
  exact Y_ Tryz.results85 () (s_ rfl (by subst_vars; cases bG_ s <;> rfl)) (.refl _) (fun _ _ _ => trivial)
end Go.Proofs.YtaffcjgphlhppaaGreatDoor
namespace Go.Proofs.YtaffcjgphlhppaaGreatDoor
open Go Go.Sx Go.Proofs
attribute [local irreducible] Code.wp wpList wpAnyH
open Go.Vs
theorem fits_c : ∀ (m : Nat) (c : Con), c.sz ≤ m → c.ok → ∀ (d n bs : Nat), d ≤ 9 → n ≤ 64 → ∀ r, c.fits d n = r →
  Tri Tryz.prog 124 #[c.val, .int .i64 (d : Int), zp_ bs 0] [(bs, .cells #[.int .i64 (n : Int)] 3 (0, 0))] [c.memF] (fun _ : Unit => .bool r.1) (fun _ => [(bs, .cells #[.int .i64 (r.2 : Int)] 3 (0, 0))]) (fun _ => []) := by
 intro m
 induction m with
 | zero => intro c h; have := c.sz_pos; omega
 | succ m ih =>
  intro c hm hok d n bs hd hn r hr
  obtain ⟨k, nm, lo, hi, ad, cap, ps⟩ := c
  have hlen := Con.ok_len hok
  simp only [Con.parts, Con.cap] at hlen
  refine S_ Tryz.func124 rfl rfl Tryz.ntmps124 rfl fun v0 => ?_
  refine g_ (c_ (aM_ rfl rfl fun b1 => ?_))
  refine a_ (e_ rfl) rfl (d_ (b_ rfl (g_ (c_ (a_ (f_ rfl) rfl (a_ (bk_ rfl) rfl (a_ (n_ 1 B_ rfl rfl rfl) rfl (a_ (ag_ rfl rfl rfl (aS_ (by omega) (by omega))) rfl (a_ (bk_ rfl) rfl ?_)))))))))
  refine Q_ 1 q_ rfl rfl rfl rfl rfl rfl (d_ (b_ rfl (g_ (g_ (c_ (a_ (f_ rfl) rfl (E_ (bp_ rfl rfl) rfl fun r1 hr1 => ?_)))))))
  refine a_ (f_ rfl) rfl ?_
  cases r1
  ·
   replace hr1 := of_decide_eq_false hr1
   try dsimp only [Con.kind, Con.parts, Con.name, Con.lo, Con.hi, Con.cap, Con.ad] at hr1
   refine i_ rfl rfl (a_ (f_ rfl) rfl (i_ rfl rfl (a_ (bk_ rfl) rfl (i_ rfl rfl (a_ (n_ 1 B_ rfl rfl rfl) rfl (i_ rfl rfl (E_ (bp_ rfl rfl) rfl fun r2 hr2 => ?_)))))))
   refine a_ (t_ rfl rfl) rfl (d_ (b_ rfl ?_))
   cases r2
   ·
    replace hr2 := of_decide_eq_false hr2
    try dsimp only [Con.kind, Con.parts, Con.name, Con.lo, Con.hi, Con.cap, Con.ad] at hr2
    have hc0 : ¬ (8 < d ∨ 64 < n + 1) := by omega
    refine A_ rfl (J_ (b_ rfl (g_ (g_ (c_ (a_ (h_ aB_ rfl rfl rfl jA_) rfl (a_ (n_ 0 lI_ rfl rfl rfl) rfl (a_ (aA_ cB_ rfl) rfl (a_ (f_ rfl) rfl ?_)))))))))
    refine d_ (b_ rfl (ae_ (de_ [(1, .int .i64 (d : Int)), (2, zp_ bs 0), (23, .slice ad ps.length cap), (24, .int .i64 (ps.length : Int)), (25, .int .i64 ((0 : Nat) : Int))] ⟨rfl, rfl, rfl, rfl, rfl, trivial⟩ ?_)))
    refine dq_ (ι := {q : Nat × Nat // q.1 ≤ ps.length ∧ Con.fits.fitss (ps.take q.1) (d + 1) (n + 1) = (true, q.2) ∧ q.2 ≤ 64}) (fun i => [(1, .int .i64 (d : Int)), (2, zp_ bs 0), (23, .slice ad ps.length cap), (24, .int .i64 (ps.length : Int)), (25, .int .i64 (i.1.1 : Int))]) (fun i => [_, (bs, .cells #[.int .i64 (i.1.2 : Int)] 3 (0, 0))]) (fun _ => _) (fun i => ps.length - i.1.1) ⟨(0, n + 1), by simp [Con.fits.fitss]; omega⟩ ?_
    rintro ⟨⟨i, m1⟩, hk⟩
    refine de_ [(1, .int .i64 (d : Int)), (2, zp_ bs 0), (23, .slice ad ps.length cap), (24, .int .i64 (ps.length : Int)), (25, .int .i64 (i : Int))] ⟨rfl, rfl, rfl, rfl, rfl, trivial⟩ ?_
    refine g_ (c_ (E_ (au_ rfl rfl) rfl fun r3 hr3 => ?_))
    refine d_ (b_ rfl (g_ ?_))
    cases r3
    ·
     replace hr3 := of_decide_eq_false hr3
     try dsimp only [Con.kind, Con.parts, Con.name, Con.lo, Con.hi, Con.cap, Con.ad] at hr3
     refine A_ rfl (bj_ rfl (b_ rfl (g_ (c_ (a_ (e_ rfl) rfl (d_ (b_ rfl (u_ ?_))))))))
     obtain rfl : r = (true, m1) := by rw [← hr]; exact Con.fits_yes hc0 (by omega) hk.2.1
     exact Y_ Tryz.results124 () rfl (ek_ (i := 1) rfl) (fun _ _ _ => trivial)
    ·
     replace hr3 := of_decide_eq_true hr3
     try dsimp only [Con.kind, Con.parts, Con.name, Con.lo, Con.hi, Con.cap, Con.ad] at hr3
     have hlt : i < ps.length := by omega
     obtain ⟨p, hp⟩ : ∃ p, ps[i]? = some p := ⟨_, List.getElem?_eq_getElem hlt⟩
     have hpm : p ∈ ps := List.mem_of_getElem? hp
     refine w_ rfl (J_ (b_ rfl (g_ (ae_ (g_ (c_ (a_ (an_ cB_ X_ rfl rfl (fun v _ h => Con.row_addr (c := .mk k nm lo hi ad cap ps) h.1 hp) (by omega) (by omega)) rfl (a_ (aX_ (us := p.cells) aP_ X_ rfl (fun v _ h => ((Con.mem_iff (.mk k nm lo hi ad cap ps) v).1 h.1).1) p.cells_len (Con.part_cells (c := .mk k nm lo hi ad cap ps) (i := i) hp)) rfl (Z_ Tryz.zeroValue56 rfl fun b2 => ?_)))))))))
     refine hU_ 0 X_ rfl rfl rfl rfl (d_ (b_ rfl (g_ (c_ (a_ (dQ_ 0 aP_ X_ rfl rfl) rfl (a_ (f_ rfl) rfl (a_ (ag_ rfl rfl rfl (aS_ (by omega) (by omega))) rfl (a_ (f_ rfl) rfl (hX_ 2 (ih p (by have := Con.sz_part (c := .mk k nm lo hi ad cap ps) hpm; omega) (Con.ok_part (c := .mk k nm lo hi ad cap ps) hok hpm) (d + 1) m1 bs (by omega) hk.2.2 _ rfl) rfl rfl (fun v _ h => ⟨Con.mem_part (c := .mk k nm lo hi ad cap ps) h.1 hpm, trivial⟩) rfl fun r4 hr4 => ?_)))))))))
     refine a_ (bu_ rfl) rfl (d_ (b_ rfl ?_))
     cases r4
     ·
      try dsimp only [Con.kind, Con.parts, Con.name, Con.lo, Con.hi, Con.cap, Con.ad] at hr4
      refine w_ rfl (g_ (c_ (a_ (e_ rfl) rfl (d_ (b_ rfl (u_ ?_))))))
      obtain rfl : r = (false, (p.fits (d + 1) m1).2) := by rw [← hr]; exact Con.fits_no hc0 hp hk.2.1 (by assumption)
      exact Y_ Tryz.results124 () rfl (ek_ (i := 2) rfl) (fun _ _ _ => trivial)
     ·
      try dsimp only [Con.kind, Con.parts, Con.name, Con.lo, Con.hi, Con.cap, Con.ad] at hr4
      refine A_ rfl (J_ (b_ rfl (c_ (a_ (ag_ rfl rfl rfl (aS_ (by omega) (by omega))) rfl (a_ (f_ rfl) rfl (d_ (p_ rfl ?_)))))))
      exact aU_ ⟨(i + 1, (p.fits (d + 1) m1).2), hlt, Con.fitss_step hp hk.2.1 (by assumption)⟩ (by simp; omega) ⟨rfl, rfl, rfl, rfl, rfl, trivial⟩ (@List.perm_append_comm _ [_] _) (fun _ _ h => h)
   ·
    replace hr2 := of_decide_eq_true hr2
    try dsimp only [Con.kind, Con.parts, Con.name, Con.lo, Con.hi, Con.cap, Con.ad] at hr2
    refine w_ rfl (g_ (c_ (a_ (e_ rfl) rfl (d_ (b_ rfl (u_ ?_))))))
    obtain rfl : r = (false, n + 1) := by rw [← hr, Con.fits_eq]; simp <;> omega
    exact Y_ Tryz.results124 () rfl (ek_ (i := 1) rfl) (fun _ _ _ => trivial)
  ·
   replace hr1 := of_decide_eq_true hr1
   try dsimp only [Con.kind, Con.parts, Con.name, Con.lo, Con.hi, Con.cap, Con.ad] at hr1
   refine k_ rfl rfl rfl rfl (k_ rfl rfl rfl rfl (k_ rfl rfl rfl rfl (k_ rfl rfl rfl rfl (a_ (v_ rfl rfl) rfl (d_ (b_ rfl (w_ rfl (g_ (c_ ?_)))))))))
   refine a_ (e_ rfl) rfl (d_ (b_ rfl (u_ ?_)))
   obtain rfl : r = (false, n + 1) := by rw [← hr, Con.fits_eq]; simp <;> omega
   exact Y_ Tryz.results124 () rfl (ek_ (i := 1) rfl) (fun _ _ _ => trivial)
end Go.Proofs.YtaffcjgphlhppaaGreatDoor
namespace Go.Proofs.YtaffcjgphlhppaaGreatDoor
open Go Go.Sx Go.Proofs
attribute [local irreducible] Code.wp wpList wpAnyH
open Go.Vs
def nU_ (v : Vw) : Prop := v.sl ∧ v.im 6 ∧ ∃ T fz, v.w.heap[6]? = some (.cells (Lib.pow10Tab.map fun z => Value.int .u64 z).toArray T fz)
theorem lx_ {v v' : Vw} (h : v.le v') (hp : nU_ v) : nU_ v' := by
  obtain ⟨h0, h1, T, fz, h2⟩ := hp
  exact ⟨by rw [h.sl]; exact h0, h.imUp _ h1, T, fz, by rw [h.block _ h1]; exact h2⟩
def gL_ : Fct where
  p := fun v => bV_ v (some ⟨2, 0, none⟩) (kH_.flatMap mj_) ∧ bV_ v (some ⟨0, 0, none⟩) (oT_.flatMap Use.cells) ∧ bV_ v (some ⟨1, 0, none⟩) (mh_.flatMap NUse.cells) ∧ nU_ v
  mono := fun v v' h hp => ⟨(aY_ _ _).mono v v' h hp.1, (aY_ _ _).mono v v' h hp.2.1, (aY_ _ _).mono v v' h hp.2.2.1, lx_ h hp.2.2.2⟩
def jx_ : Fct := aY_ (some ⟨1, 0, none⟩) (mh_.flatMap NUse.cells)
end Go.Proofs.YtaffcjgphlhppaaGreatDoor
namespace Go.Proofs.YtaffcjgphlhppaaGreatDoor
open Go Go.Sx Go.Proofs
attribute [local irreducible] Code.wp wpList wpAnyH
open Go.Vs
theorem iA_ (c : Con) (hok : c.ok) : Tri Tryz.prog 126 #[c.val] [] [gL_] (fun _ : Unit => .int .i64 c.fieldErr) (fun _ => []) (fun _ => []) := by
 obtain ⟨k, nm, lo, hi, ad, cap, ps⟩ := c
 have hlen := Con.ok_len hok
 simp only [Con.parts, Con.cap] at hlen
 refine S_ Tryz.func126 rfl rfl Tryz.ntmps126 rfl fun v0 => ?_
 refine g_ (c_ (aM_ rfl rfl fun b1 => ?_))
 refine a_ (e_ rfl) rfl (d_ (b_ rfl (g_ (g_ (c_ (a_ (h_ aB_ rfl rfl rfl q_) rfl (a_ (n_ 0 B_ rfl rfl rfl) rfl (E_ (au_ rfl rfl) rfl fun r1 hr1 => ?_))))))))
 refine a_ (f_ rfl) rfl ?_
 refine aV_ 4 ((decide (k < 1)) || (decide (7 < k))) (fun r => [(0, .agg #[.int .i64 k, str nm, .int .i64 lo, .int .i64 hi, .slice ad ps.length cap]), (1, zp_ b1 0), (2, .int .i64 0), (11, .bool r)]) ?_ fun r2 hr2 => ?_
 ·
  cases r1
  ·
   have qr2 := hr1
   replace hr1 := of_decide_eq_false hr1
   try dsimp only [Con.kind, Con.parts, Con.name, Con.lo, Con.hi, Con.cap, Con.ad] at hr1
   refine i_ rfl rfl (a_ (h_ aB_ rfl rfl rfl q_) rfl (i_ rfl rfl (a_ (n_ 0 B_ rfl rfl rfl) rfl (i_ rfl rfl (E_ (bp_ rfl rfl) rfl fun r3 hr3 => ?_)))))
   refine a_ (t_ rfl rfl) rfl (d_ (p_ rfl ?_))
   exact met ⟨rfl, rfl, rfl, (s_ rfl (jof qr2 hr3)), trivial⟩
  ·
   have qr2 := hr1
   replace hr1 := of_decide_eq_true hr1
   try dsimp only [Con.kind, Con.parts, Con.name, Con.lo, Con.hi, Con.cap, Con.ad] at hr1
   refine k_ rfl rfl rfl rfl (k_ rfl rfl rfl rfl (k_ rfl rfl rfl rfl (a_ (v_ rfl rfl) rfl (d_ (p_ rfl ?_)))))
   exact met ⟨rfl, rfl, rfl, (s_ rfl (jot qr2)), trivial⟩
 ·
  refine d_ (b_ rfl ?_)
  cases r2
  ·
   simp at hr2
   try dsimp only [Con.kind, Con.parts, Con.name, Con.lo, Con.hi, Con.cap, Con.ad] at hr2
   obtain ⟨x, hx⟩ : ∃ x, kH_[k.toNat]? = some x := ⟨_, List.getElem?_eq_getElem (show k.toNat < 8 by omega)⟩
   have hnd : nd k = x := by simp [nd, hx]
   obtain ⟨x1, x2, x3, xb⟩ := x
   refine A_ rfl (J_ (b_ rfl (g_ (c_ (a_ (h_ aB_ rfl rfl rfl q_) rfl (a_ (n_ 0 B_ rfl rfl rfl) rfl (a_ (ep_ Tryz.runUnderlying216 Tryz.sizeOf215 rfl rfl (by show (0 : Int) ≤ k; omega) (by show k < (8 : Int); omega)) rfl ?_)))))))
   refine a_ (aX_ (ad := some ⟨2, 0, none⟩) (k := k.toNat * 4) (us := mj_ (x1, x2, x3, xb)) Tryz.isAgg215 Tryz.sizeOf215 rfl (fun v _ h => h.1.1) (gS_ _) (fun j y hj => by rw [in_ mj_ 4 gS_ kH_ k.toNat j _ hx (by have := (List.getElem?_eq_some_iff.1 hj).1; rwa [gS_] at this)]; exact hj)) rfl ?_
   refine Z_ Tryz.zeroValue215 rfl fun b2 => ?_
   refine Q_ 0 Tryz.sizeOf215 rfl rfl rfl rfl rfl rfl (d_ (b_ rfl (g_ (g_ (c_ (a_ (h_ aB_ rfl rfl rfl jA_) rfl (a_ (n_ 1 lI_ rfl rfl rfl) rfl (a_ (aA_ cB_ rfl) rfl (a_ (h_ cS_ rfl rfl rfl q_) rfl ?_)))))))))
   refine a_ (n_ 0 B_ rfl rfl rfl) rfl (E_ (au_ rfl rfl) rfl fun r4 hr4 => ?_)
   refine a_ (f_ rfl) rfl ?_
   refine aV_ 7 ((decide ((ps.length : Int) < x2)) || (decide (x3 < (ps.length : Int)))) (fun r => [(0, .agg #[.int .i64 k, str nm, .int .i64 lo, .int .i64 hi, .slice ad ps.length cap]), (1, zp_ b1 0), (2, .int .i64 0), (11, .bool false), (12, zp_ b1 0), (13, .int .i64 k), (14, .pointer (some (rad (some ⟨2, 0, none⟩) (k.toNat * 4)))), (15, .agg #[.int .i64 x1, .int .i64 x2, .int .i64 x3, .bool xb]), (3, zp_ b2 0), (29, .bool r)]) ?_ fun r5 hr5 => ?_
   ·
    cases r4
    ·
     have qr5 := hr4
     replace hr4 := of_decide_eq_false hr4
     try dsimp only [Con.kind, Con.parts, Con.name, Con.lo, Con.hi, Con.cap, Con.ad] at hr4
     refine i_ rfl rfl (a_ (h_ aB_ rfl rfl rfl jA_) rfl (i_ rfl rfl (a_ (n_ 1 lI_ rfl rfl rfl) rfl (i_ rfl rfl (a_ (aA_ cB_ rfl) rfl (i_ rfl rfl (a_ (h_ cS_ rfl rfl rfl q_) rfl (i_ rfl rfl (a_ (n_ 0 B_ rfl rfl rfl) rfl ?_)))))))))
     refine i_ rfl rfl (E_ (bp_ rfl rfl) rfl fun r6 hr6 => ?_)
     refine a_ (t_ rfl rfl) rfl (d_ (p_ rfl ?_))
     exact met ⟨rfl, rfl, rfl, rfl, rfl, rfl, rfl, rfl, rfl, (s_ rfl (jof qr5 hr6)), trivial⟩
    ·
     have qr5 := hr4
     replace hr4 := of_decide_eq_true hr4
     try dsimp only [Con.kind, Con.parts, Con.name, Con.lo, Con.hi, Con.cap, Con.ad] at hr4
     refine k_ rfl rfl rfl rfl (k_ rfl rfl rfl rfl (k_ rfl rfl rfl rfl (k_ rfl rfl rfl rfl (k_ rfl rfl rfl rfl (k_ rfl rfl rfl rfl (a_ (v_ rfl rfl) rfl (d_ (p_ rfl ?_))))))))
     exact met ⟨rfl, rfl, rfl, rfl, rfl, rfl, rfl, rfl, rfl, (s_ rfl (jot qr5)), trivial⟩
   ·
    refine a_ (f_ rfl) rfl ?_
    refine aV_ 9 ((((decide ((ps.length : Int) < x2)) || (decide (x3 < (ps.length : Int))))) || (((x1 == 0) && (nm != [])))) (fun r => [(0, .agg #[.int .i64 k, str nm, .int .i64 lo, .int .i64 hi, .slice ad ps.length cap]), (1, zp_ b1 0), (2, .int .i64 0), (11, .bool false), (12, zp_ b1 0), (13, .int .i64 k), (14, .pointer (some (rad (some ⟨2, 0, none⟩) (k.toNat * 4)))), (15, .agg #[.int .i64 x1, .int .i64 x2, .int .i64 x3, .bool xb]), (3, zp_ b2 0), (39, .bool r)]) ?_ fun r7 hr7 => ?_
    ·
     cases r5
     ·
      have qr7 := hr5
      simp at hr5
      try dsimp only [Con.kind, Con.parts, Con.name, Con.lo, Con.hi, Con.cap, Con.ad] at hr5
      refine i_ rfl rfl (a_ (h_ cS_ rfl rfl rfl q_) rfl (i_ rfl rfl (a_ (n_ 0 B_ rfl rfl rfl) rfl (i_ rfl rfl (E_ (aG_ rfl rfl) rfl fun r8 hr8 => ?_)))))
      refine i_ rfl rfl (a_ (f_ rfl) rfl ?_)
      refine aV_ 4 ((x1 == 0) && (nm != [])) (fun r => [(0, .agg #[.int .i64 k, str nm, .int .i64 lo, .int .i64 hi, .slice ad ps.length cap]), (1, zp_ b1 0), (2, .int .i64 0), (11, .bool false), (12, zp_ b1 0), (13, .int .i64 k), (14, .pointer (some (rad (some ⟨2, 0, none⟩) (k.toNat * 4)))), (15, .agg #[.int .i64 x1, .int .i64 x2, .int .i64 x3, .bool xb]), (3, zp_ b2 0), (30, .bool false), (38, .bool r)]) ?_ fun r9 hr9 => ?_
      ·
       cases r8
       ·
        have qr9 := hr8
        replace hr8 := ne_of_beq_false hr8
        try dsimp only [Con.kind, Con.parts, Con.name, Con.lo, Con.hi, Con.cap, Con.ad] at hr8
        refine k_ rfl rfl rfl rfl (k_ rfl rfl rfl rfl (k_ rfl rfl rfl rfl (i_ rfl rfl (a_ (t_ rfl rfl) rfl (d_ (p_ rfl ?_))))))
        exact met ⟨rfl, rfl, rfl, rfl, rfl, rfl, rfl, rfl, rfl, rfl, (s_ rfl (jaf qr9)), trivial⟩
       ·
        have qr9 := hr8
        replace hr8 := eq_of_beq hr8
        try dsimp only [Con.kind, Con.parts, Con.name, Con.lo, Con.hi, Con.cap, Con.ad] at hr8
        refine i_ rfl rfl (a_ (h_ aB_ rfl rfl rfl y_) rfl (i_ rfl rfl (a_ (n_ 1 H_ rfl rfl rfl) rfl (i_ rfl rfl (E_ (fv_ rfl rfl) rfl fun r10 hr10 => ?_)))))
        refine i_ rfl rfl (a_ (v_ rfl rfl) rfl (d_ (p_ rfl ?_)))
        exact met ⟨rfl, rfl, rfl, rfl, rfl, rfl, rfl, rfl, rfl, rfl, (s_ rfl (jat qr9 hr10)), trivial⟩
      ·
       refine a_ (t_ rfl rfl) rfl (d_ (p_ rfl ?_))
       exact met ⟨rfl, rfl, rfl, rfl, rfl, rfl, rfl, rfl, rfl, (s_ rfl (jof qr7 hr9)), trivial⟩
     ·
      have qr7 := hr5
      simp at hr5
      try dsimp only [Con.kind, Con.parts, Con.name, Con.lo, Con.hi, Con.cap, Con.ad] at hr5
      refine k_ rfl rfl rfl rfl (k_ rfl rfl rfl rfl (k_ rfl rfl rfl rfl (k_ rfl rfl rfl rfl (k_ rfl rfl rfl rfl (k_ rfl rfl rfl rfl (k_ rfl rfl rfl rfl (k_ rfl rfl rfl rfl (a_ (v_ rfl rfl) rfl (d_ ?_)))))))))
      refine p_ rfl ?_
      exact met ⟨rfl, rfl, rfl, rfl, rfl, rfl, rfl, rfl, rfl, (s_ rfl (jot qr7)), trivial⟩
    ·
     refine d_ (b_ rfl ?_)
     cases r7
     ·
      simp at hr7
      try dsimp only [Con.kind, Con.parts, Con.name, Con.lo, Con.hi, Con.cap, Con.ad] at hr7
      refine A_ rfl (J_ (b_ rfl (g_ (g_ (c_ (a_ (h_ cS_ rfl rfl rfl aI_) rfl (a_ (n_ 0 bg_ rfl rfl rfl) rfl (d_ (b_ rfl ?_)))))))))
      cases xb
      ·
       try dsimp only [Con.kind, Con.parts, Con.name, Con.lo, Con.hi, Con.cap, Con.ad] at hxb
       refine A_ rfl (g_ (c_ (a_ (h_ aB_ rfl rfl rfl q_) rfl (a_ (n_ 1 B_ rfl rfl rfl) rfl (E_ (bF_ rfl rfl) rfl fun r11 hr11 => ?_)))))
       refine a_ (f_ rfl) rfl ?_
       refine aV_ 4 ((lo != 0) || (hi != 0)) (fun r => [(0, .agg #[.int .i64 k, str nm, .int .i64 lo, .int .i64 hi, .slice ad ps.length cap]), (1, zp_ b1 0), (2, .int .i64 0), (11, .bool false), (12, zp_ b1 0), (13, .int .i64 k), (14, .pointer (some (rad (some ⟨2, 0, none⟩) (k.toNat * 4)))), (15, .agg #[.int .i64 x1, .int .i64 x2, .int .i64 x3, .bool false]), (3, zp_ b2 0), (39, .bool false), (40, zp_ b2 3), (41, .bool false), (64, .bool r)]) ?_ fun r12 hr12 => ?_
       ·
        cases r11
        ·
         have qr12 := hr11
         replace hr11 := bw_ hr11
         try dsimp only [Con.kind, Con.parts, Con.name, Con.lo, Con.hi, Con.cap, Con.ad] at hr11
         refine i_ rfl rfl (a_ (h_ aB_ rfl rfl rfl q_) rfl (i_ rfl rfl (a_ (n_ 1 B_ rfl rfl rfl) rfl (i_ rfl rfl (E_ (bF_ rfl rfl) rfl fun r13 hr13 => ?_)))))
         refine a_ (t_ rfl rfl) rfl (d_ (p_ rfl ?_))
         exact met ⟨rfl, rfl, rfl, rfl, rfl, rfl, rfl, rfl, rfl, rfl, rfl, rfl, (s_ rfl (jof qr12 hr13)), trivial⟩
        ·
         have qr12 := hr11
         replace hr11 := bv_ hr11
         try dsimp only [Con.kind, Con.parts, Con.name, Con.lo, Con.hi, Con.cap, Con.ad] at hr11
         refine k_ rfl rfl rfl rfl (k_ rfl rfl rfl rfl (k_ rfl rfl rfl rfl (a_ (v_ rfl rfl) rfl (d_ (p_ rfl ?_)))))
         exact met ⟨rfl, rfl, rfl, rfl, rfl, rfl, rfl, rfl, rfl, rfl, rfl, rfl, (s_ rfl (jot qr12)), trivial⟩
       ·
        refine d_ (b_ rfl ?_)
        cases r12
        ·
         simp at hr12
         try dsimp only [Con.kind, Con.parts, Con.name, Con.lo, Con.hi, Con.cap, Con.ad] at hr12
         refine A_ rfl (J_ (b_ rfl (g_ (g_ (c_ (a_ (h_ cS_ rfl rfl rfl q_) rfl (a_ (n_ 0 B_ rfl rfl rfl) rfl (E_ (aG_ rfl rfl) rfl fun r14 hr14 => ?_))))))))
         refine a_ (f_ rfl) rfl ?_
         refine aV_ 4 ((x1 == 0) || (cz_ nm)) (fun r => [(0, .agg #[.int .i64 k, str nm, .int .i64 lo, .int .i64 hi, .slice ad ps.length cap]), (1, zp_ b1 0), (2, .int .i64 0), (11, .bool false), (12, zp_ b1 0), (13, .int .i64 k), (14, .pointer (some (rad (some ⟨2, 0, none⟩) (k.toNat * 4)))), (15, .agg #[.int .i64 x1, .int .i64 x2, .int .i64 x3, .bool false]), (3, zp_ b2 0), (39, .bool false), (40, zp_ b2 3), (41, .bool false), (64, .bool false), (72, .bool r)]) ?_ fun r15 hr15 => ?_
         ·
          cases r14
          ·
           have qr15 := hr14
           replace hr14 := ne_of_beq_false hr14
           try dsimp only [Con.kind, Con.parts, Con.name, Con.lo, Con.hi, Con.cap, Con.ad] at hr14
           refine i_ rfl rfl (a_ (h_ aB_ rfl rfl rfl y_) rfl (i_ rfl rfl (a_ (n_ 1 H_ rfl rfl rfl) rfl (i_ rfl rfl (ah_ (eZ_ nm) rfl (.refl _) (fun _ _ _ => trivial) rfl fun r16 hr16 => ?_)))))
           refine a_ (t_ rfl rfl) rfl (d_ (p_ rfl ?_))
           exact met ⟨rfl, rfl, rfl, rfl, rfl, rfl, rfl, rfl, rfl, rfl, rfl, rfl, rfl, (s_ rfl (jof qr15 hr16)), trivial⟩
          ·
           have qr15 := hr14
           replace hr14 := eq_of_beq hr14
           try dsimp only [Con.kind, Con.parts, Con.name, Con.lo, Con.hi, Con.cap, Con.ad] at hr14
           refine k_ rfl rfl rfl rfl (k_ rfl rfl rfl rfl (k_ rfl rfl rfl rfl (a_ (v_ rfl rfl) rfl (d_ (p_ rfl ?_)))))
           exact met ⟨rfl, rfl, rfl, rfl, rfl, rfl, rfl, rfl, rfl, rfl, rfl, rfl, rfl, (s_ rfl (jot qr15)), trivial⟩
         ·
          refine a_ (f_ rfl) rfl ?_
          refine aV_ 9 ((((x1 == 0) || (cz_ nm))) || (((x1 == 2) && (cF_ nm)))) (fun r => [(0, .agg #[.int .i64 k, str nm, .int .i64 lo, .int .i64 hi, .slice ad ps.length cap]), (1, zp_ b1 0), (2, .int .i64 0), (11, .bool false), (12, zp_ b1 0), (13, .int .i64 k), (14, .pointer (some (rad (some ⟨2, 0, none⟩) (k.toNat * 4)))), (15, .agg #[.int .i64 x1, .int .i64 x2, .int .i64 x3, .bool false]), (3, zp_ b2 0), (39, .bool false), (40, zp_ b2 3), (41, .bool false), (64, .bool false), (82, .bool r)]) ?_ fun r17 hr17 => ?_
          ·
           cases r15
           ·
            have qr17 := hr15
            simp at hr15
            try dsimp only [Con.kind, Con.parts, Con.name, Con.lo, Con.hi, Con.cap, Con.ad] at hr15
            refine i_ rfl rfl (a_ (h_ cS_ rfl rfl rfl q_) rfl (i_ rfl rfl (a_ (n_ 0 B_ rfl rfl rfl) rfl (i_ rfl rfl (E_ (aG_ rfl rfl) rfl fun r18 hr18 => ?_)))))
            refine i_ rfl rfl (a_ (f_ rfl) rfl ?_)
            refine aV_ 4 ((x1 == 2) && (cF_ nm)) (fun r => [(0, .agg #[.int .i64 k, str nm, .int .i64 lo, .int .i64 hi, .slice ad ps.length cap]), (1, zp_ b1 0), (2, .int .i64 0), (11, .bool false), (12, zp_ b1 0), (13, .int .i64 k), (14, .pointer (some (rad (some ⟨2, 0, none⟩) (k.toNat * 4)))), (15, .agg #[.int .i64 x1, .int .i64 x2, .int .i64 x3, .bool false]), (3, zp_ b2 0), (39, .bool false), (40, zp_ b2 3), (41, .bool false), (64, .bool false), (73, .bool false), (81, .bool r)]) ?_ fun r19 hr19 => ?_
            ·
             cases r18
             ·
              have qr19 := hr18
              replace hr18 := ne_of_beq_false hr18
              try dsimp only [Con.kind, Con.parts, Con.name, Con.lo, Con.hi, Con.cap, Con.ad] at hr18
              refine k_ rfl rfl rfl rfl (k_ rfl rfl rfl rfl (k_ rfl rfl rfl rfl (i_ rfl rfl (a_ (t_ rfl rfl) rfl (d_ (p_ rfl ?_))))))
              exact met ⟨rfl, rfl, rfl, rfl, rfl, rfl, rfl, rfl, rfl, rfl, rfl, rfl, rfl, rfl, (s_ rfl (jaf qr19)), trivial⟩
             ·
              have qr19 := hr18
              replace hr18 := eq_of_beq hr18
              try dsimp only [Con.kind, Con.parts, Con.name, Con.lo, Con.hi, Con.cap, Con.ad] at hr18
              refine i_ rfl rfl (a_ (h_ aB_ rfl rfl rfl y_) rfl (i_ rfl rfl (a_ (n_ 1 H_ rfl rfl rfl) rfl (i_ rfl rfl (ah_ (fo_ nm (Con.ok_name hok)) rfl (.refl _) (fun _ _ _ => trivial) rfl fun r20 hr20 => ?_)))))
              refine i_ rfl rfl (a_ (v_ rfl rfl) rfl (d_ (p_ rfl ?_)))
              exact met ⟨rfl, rfl, rfl, rfl, rfl, rfl, rfl, rfl, rfl, rfl, rfl, rfl, rfl, rfl, (s_ rfl (jat qr19 hr20)), trivial⟩
            ·
             refine a_ (t_ rfl rfl) rfl (d_ (p_ rfl ?_))
             exact met ⟨rfl, rfl, rfl, rfl, rfl, rfl, rfl, rfl, rfl, rfl, rfl, rfl, rfl, (s_ rfl (jof qr17 hr19)), trivial⟩
           ·
            have qr17 := hr15
            simp at hr15
            try dsimp only [Con.kind, Con.parts, Con.name, Con.lo, Con.hi, Con.cap, Con.ad] at hr15
            refine k_ rfl rfl rfl rfl (k_ rfl rfl rfl rfl (k_ rfl rfl rfl rfl (k_ rfl rfl rfl rfl (k_ rfl rfl rfl rfl (k_ rfl rfl rfl rfl (k_ rfl rfl rfl rfl (k_ rfl rfl rfl rfl (a_ (v_ rfl rfl) rfl (d_ ?_)))))))))
            refine p_ rfl ?_
            exact met ⟨rfl, rfl, rfl, rfl, rfl, rfl, rfl, rfl, rfl, rfl, rfl, rfl, rfl, (s_ rfl (jot qr17)), trivial⟩
          ·
           refine d_ (b_ rfl ?_)
           cases r17
           ·
            simp at hr17
            try dsimp only [Con.kind, Con.parts, Con.name, Con.lo, Con.hi, Con.cap, Con.ad] at hr17
            refine A_ rfl (J_ (b_ rfl (g_ (c_ (a_ (e_ rfl) rfl (d_ (b_ rfl (u_ ?_))))))))
            exact Y_ ee_ () (aH_ rfl (by unfold Con.fieldErr; simp only [Con.kind, Con.parts, Con.name, Con.lo, Con.hi]; simp only [hnd]; repeat (first | rfl | exact (if_pos (by omega)).symm | (rw [if_pos (by first | omega | (simp_all; done) | (simp_all; omega) | grind)]; first | done | rfl) | (rw [if_neg (by first | omega | (simp_all; done) | (simp_all; omega) | grind)])))) (.refl _) (fun _ _ _ => trivial)
           ·
            simp at hr17
            try dsimp only [Con.kind, Con.parts, Con.name, Con.lo, Con.hi, Con.cap, Con.ad] at hr17
            refine w_ rfl (g_ (c_ (a_ (e_ rfl) rfl (d_ (b_ rfl (u_ ?_))))))
            exact Y_ ee_ () (aH_ rfl (by unfold Con.fieldErr; simp only [Con.kind, Con.parts, Con.name, Con.lo, Con.hi]; simp only [hnd]; repeat (first | rfl | exact (if_pos (by omega)).symm | (rw [if_pos (by first | omega | (simp_all; done) | (simp_all; omega) | grind)]; first | done | rfl) | (rw [if_neg (by first | omega | (simp_all; done) | (simp_all; omega) | grind)])))) (.refl _) (fun _ _ _ => trivial)
        ·
         simp at hr12
         try dsimp only [Con.kind, Con.parts, Con.name, Con.lo, Con.hi, Con.cap, Con.ad] at hr12
         refine w_ rfl (g_ (c_ (a_ (e_ rfl) rfl (d_ (b_ rfl (u_ ?_))))))
         exact Y_ ee_ () (aH_ rfl (by unfold Con.fieldErr; simp only [Con.kind, Con.parts, Con.name, Con.lo, Con.hi]; simp only [hnd]; repeat (first | rfl | exact (if_pos (by omega)).symm | (rw [if_pos (by first | omega | (simp_all; done) | (simp_all; omega) | grind)]; first | done | rfl) | (rw [if_neg (by first | omega | (simp_all; done) | (simp_all; omega) | grind)])))) (.refl _) (fun _ _ _ => trivial)
      ·
       try dsimp only [Con.kind, Con.parts, Con.name, Con.lo, Con.hi, Con.cap, Con.ad] at hxb
       refine w_ rfl (g_ (c_ (a_ (h_ aB_ rfl rfl rfl q_) rfl (a_ (n_ 1 B_ rfl rfl rfl) rfl (E_ (au_ rfl rfl) rfl fun r21 hr21 => ?_)))))
       refine a_ (f_ rfl) rfl ?_
       refine aV_ 6 ((decide (lo < (-1099511627776))) || (decide (hi < lo))) (fun r => [(0, .agg #[.int .i64 k, str nm, .int .i64 lo, .int .i64 hi, .slice ad ps.length cap]), (1, zp_ b1 0), (2, .int .i64 0), (11, .bool false), (12, zp_ b1 0), (13, .int .i64 k), (14, .pointer (some (rad (some ⟨2, 0, none⟩) (k.toNat * 4)))), (15, .agg #[.int .i64 x1, .int .i64 x2, .int .i64 x3, .bool true]), (3, zp_ b2 0), (39, .bool false), (40, zp_ b2 3), (41, .bool true), (51, .bool r)]) ?_ fun r22 hr22 => ?_
       ·
        cases r21
        ·
         have qr22 := hr21
         replace hr21 := of_decide_eq_false hr21
         try dsimp only [Con.kind, Con.parts, Con.name, Con.lo, Con.hi, Con.cap, Con.ad] at hr21
         refine i_ rfl rfl (a_ (h_ aB_ rfl rfl rfl q_) rfl (i_ rfl rfl (a_ (n_ 1 B_ rfl rfl rfl) rfl (i_ rfl rfl (a_ (h_ aB_ rfl rfl rfl q_) rfl (i_ rfl rfl (a_ (n_ 1 B_ rfl rfl rfl) rfl (i_ rfl rfl (E_ (bp_ rfl rfl) rfl fun r23 hr23 => ?_)))))))))
         refine a_ (t_ rfl rfl) rfl (d_ (p_ rfl ?_))
         exact met ⟨rfl, rfl, rfl, rfl, rfl, rfl, rfl, rfl, rfl, rfl, rfl, rfl, (s_ rfl (jof qr22 hr23)), trivial⟩
        ·
         have qr22 := hr21
         replace hr21 := of_decide_eq_true hr21
         try dsimp only [Con.kind, Con.parts, Con.name, Con.lo, Con.hi, Con.cap, Con.ad] at hr21
         refine k_ rfl rfl rfl rfl (k_ rfl rfl rfl rfl (k_ rfl rfl rfl rfl (k_ rfl rfl rfl rfl (k_ rfl rfl rfl rfl (a_ (v_ rfl rfl) rfl (d_ (p_ rfl ?_)))))))
         exact met ⟨rfl, rfl, rfl, rfl, rfl, rfl, rfl, rfl, rfl, rfl, rfl, rfl, (s_ rfl (jot qr22)), trivial⟩
       ·
        refine a_ (f_ rfl) rfl ?_
        refine aV_ 4 ((((decide (lo < (-1099511627776))) || (decide (hi < lo)))) || (decide (1099511627776 < hi))) (fun r => [(0, .agg #[.int .i64 k, str nm, .int .i64 lo, .int .i64 hi, .slice ad ps.length cap]), (1, zp_ b1 0), (2, .int .i64 0), (11, .bool false), (12, zp_ b1 0), (13, .int .i64 k), (14, .pointer (some (rad (some ⟨2, 0, none⟩) (k.toNat * 4)))), (15, .agg #[.int .i64 x1, .int .i64 x2, .int .i64 x3, .bool true]), (3, zp_ b2 0), (39, .bool false), (40, zp_ b2 3), (41, .bool true), (56, .bool r)]) ?_ fun r24 hr24 => ?_
        ·
         cases r22
         ·
          have qr24 := hr22
          simp at hr22
          try dsimp only [Con.kind, Con.parts, Con.name, Con.lo, Con.hi, Con.cap, Con.ad] at hr22
          refine i_ rfl rfl (a_ (h_ aB_ rfl rfl rfl q_) rfl (i_ rfl rfl (a_ (n_ 1 B_ rfl rfl rfl) rfl (i_ rfl rfl (E_ (bp_ rfl rfl) rfl fun r25 hr25 => ?_)))))
          refine a_ (t_ rfl rfl) rfl (d_ (p_ rfl ?_))
          exact met ⟨rfl, rfl, rfl, rfl, rfl, rfl, rfl, rfl, rfl, rfl, rfl, rfl, (s_ rfl (jof qr24 hr25)), trivial⟩
         ·
          have qr24 := hr22
          simp at hr22
          try dsimp only [Con.kind, Con.parts, Con.name, Con.lo, Con.hi, Con.cap, Con.ad] at hr22
          refine k_ rfl rfl rfl rfl (k_ rfl rfl rfl rfl (k_ rfl rfl rfl rfl (a_ (v_ rfl rfl) rfl (d_ (p_ rfl ?_)))))
          exact met ⟨rfl, rfl, rfl, rfl, rfl, rfl, rfl, rfl, rfl, rfl, rfl, rfl, (s_ rfl (jot qr24)), trivial⟩
        ·
         refine d_ (b_ rfl ?_)
         cases r24
         ·
          simp at hr24
          try dsimp only [Con.kind, Con.parts, Con.name, Con.lo, Con.hi, Con.cap, Con.ad] at hr24
          refine A_ rfl (J_ (b_ rfl (g_ (g_ (c_ (a_ (h_ cS_ rfl rfl rfl q_) rfl (a_ (n_ 0 B_ rfl rfl rfl) rfl (E_ (aG_ rfl rfl) rfl fun r26 hr26 => ?_))))))))
          refine a_ (f_ rfl) rfl ?_
          refine aV_ 4 ((x1 == 0) || (cz_ nm)) (fun r => [(0, .agg #[.int .i64 k, str nm, .int .i64 lo, .int .i64 hi, .slice ad ps.length cap]), (1, zp_ b1 0), (2, .int .i64 0), (11, .bool false), (12, zp_ b1 0), (13, .int .i64 k), (14, .pointer (some (rad (some ⟨2, 0, none⟩) (k.toNat * 4)))), (15, .agg #[.int .i64 x1, .int .i64 x2, .int .i64 x3, .bool true]), (3, zp_ b2 0), (39, .bool false), (40, zp_ b2 3), (41, .bool true), (56, .bool false), (72, .bool r)]) ?_ fun r27 hr27 => ?_
          ·
           cases r26
           ·
            have qr27 := hr26
            replace hr26 := ne_of_beq_false hr26
            try dsimp only [Con.kind, Con.parts, Con.name, Con.lo, Con.hi, Con.cap, Con.ad] at hr26
            refine i_ rfl rfl (a_ (h_ aB_ rfl rfl rfl y_) rfl (i_ rfl rfl (a_ (n_ 1 H_ rfl rfl rfl) rfl (i_ rfl rfl (ah_ (eZ_ nm) rfl (.refl _) (fun _ _ _ => trivial) rfl fun r28 hr28 => ?_)))))
            refine a_ (t_ rfl rfl) rfl (d_ (p_ rfl ?_))
            exact met ⟨rfl, rfl, rfl, rfl, rfl, rfl, rfl, rfl, rfl, rfl, rfl, rfl, rfl, (s_ rfl (jof qr27 hr28)), trivial⟩
           ·
            have qr27 := hr26
            replace hr26 := eq_of_beq hr26
            try dsimp only [Con.kind, Con.parts, Con.name, Con.lo, Con.hi, Con.cap, Con.ad] at hr26
            refine k_ rfl rfl rfl rfl (k_ rfl rfl rfl rfl (k_ rfl rfl rfl rfl (a_ (v_ rfl rfl) rfl (d_ (p_ rfl ?_)))))
            exact met ⟨rfl, rfl, rfl, rfl, rfl, rfl, rfl, rfl, rfl, rfl, rfl, rfl, rfl, (s_ rfl (jot qr27)), trivial⟩
          ·
           refine a_ (f_ rfl) rfl ?_
           refine aV_ 9 ((((x1 == 0) || (cz_ nm))) || (((x1 == 2) && (cF_ nm)))) (fun r => [(0, .agg #[.int .i64 k, str nm, .int .i64 lo, .int .i64 hi, .slice ad ps.length cap]), (1, zp_ b1 0), (2, .int .i64 0), (11, .bool false), (12, zp_ b1 0), (13, .int .i64 k), (14, .pointer (some (rad (some ⟨2, 0, none⟩) (k.toNat * 4)))), (15, .agg #[.int .i64 x1, .int .i64 x2, .int .i64 x3, .bool true]), (3, zp_ b2 0), (39, .bool false), (40, zp_ b2 3), (41, .bool true), (56, .bool false), (82, .bool r)]) ?_ fun r29 hr29 => ?_
           ·
            cases r27
            ·
             have qr29 := hr27
             simp at hr27
             try dsimp only [Con.kind, Con.parts, Con.name, Con.lo, Con.hi, Con.cap, Con.ad] at hr27
             refine i_ rfl rfl (a_ (h_ cS_ rfl rfl rfl q_) rfl (i_ rfl rfl (a_ (n_ 0 B_ rfl rfl rfl) rfl (i_ rfl rfl (E_ (aG_ rfl rfl) rfl fun r30 hr30 => ?_)))))
             refine i_ rfl rfl (a_ (f_ rfl) rfl ?_)
             refine aV_ 4 ((x1 == 2) && (cF_ nm)) (fun r => [(0, .agg #[.int .i64 k, str nm, .int .i64 lo, .int .i64 hi, .slice ad ps.length cap]), (1, zp_ b1 0), (2, .int .i64 0), (11, .bool false), (12, zp_ b1 0), (13, .int .i64 k), (14, .pointer (some (rad (some ⟨2, 0, none⟩) (k.toNat * 4)))), (15, .agg #[.int .i64 x1, .int .i64 x2, .int .i64 x3, .bool true]), (3, zp_ b2 0), (39, .bool false), (40, zp_ b2 3), (41, .bool true), (56, .bool false), (73, .bool false), (81, .bool r)]) ?_ fun r31 hr31 => ?_
             ·
              cases r30
              ·
               have qr31 := hr30
               replace hr30 := ne_of_beq_false hr30
               try dsimp only [Con.kind, Con.parts, Con.name, Con.lo, Con.hi, Con.cap, Con.ad] at hr30
               refine k_ rfl rfl rfl rfl (k_ rfl rfl rfl rfl (k_ rfl rfl rfl rfl (i_ rfl rfl (a_ (t_ rfl rfl) rfl (d_ (p_ rfl ?_))))))
               exact met ⟨rfl, rfl, rfl, rfl, rfl, rfl, rfl, rfl, rfl, rfl, rfl, rfl, rfl, rfl, (s_ rfl (jaf qr31)), trivial⟩
              ·
               have qr31 := hr30
               replace hr30 := eq_of_beq hr30
               try dsimp only [Con.kind, Con.parts, Con.name, Con.lo, Con.hi, Con.cap, Con.ad] at hr30
               refine i_ rfl rfl (a_ (h_ aB_ rfl rfl rfl y_) rfl (i_ rfl rfl (a_ (n_ 1 H_ rfl rfl rfl) rfl (i_ rfl rfl (ah_ (fo_ nm (Con.ok_name hok)) rfl (.refl _) (fun _ _ _ => trivial) rfl fun r32 hr32 => ?_)))))
               refine i_ rfl rfl (a_ (v_ rfl rfl) rfl (d_ (p_ rfl ?_)))
               exact met ⟨rfl, rfl, rfl, rfl, rfl, rfl, rfl, rfl, rfl, rfl, rfl, rfl, rfl, rfl, (s_ rfl (jat qr31 hr32)), trivial⟩
             ·
              refine a_ (t_ rfl rfl) rfl (d_ (p_ rfl ?_))
              exact met ⟨rfl, rfl, rfl, rfl, rfl, rfl, rfl, rfl, rfl, rfl, rfl, rfl, rfl, (s_ rfl (jof qr29 hr31)), trivial⟩
            ·
             have qr29 := hr27
             simp at hr27
             try dsimp only [Con.kind, Con.parts, Con.name, Con.lo, Con.hi, Con.cap, Con.ad] at hr27
             refine k_ rfl rfl rfl rfl (k_ rfl rfl rfl rfl (k_ rfl rfl rfl rfl (k_ rfl rfl rfl rfl (k_ rfl rfl rfl rfl (k_ rfl rfl rfl rfl (k_ rfl rfl rfl rfl (k_ rfl rfl rfl rfl (a_ (v_ rfl rfl) rfl (d_ ?_)))))))))
             refine p_ rfl ?_
             exact met ⟨rfl, rfl, rfl, rfl, rfl, rfl, rfl, rfl, rfl, rfl, rfl, rfl, rfl, (s_ rfl (jot qr29)), trivial⟩
           ·
            refine d_ (b_ rfl ?_)
            cases r29
            ·
             simp at hr29
             try dsimp only [Con.kind, Con.parts, Con.name, Con.lo, Con.hi, Con.cap, Con.ad] at hr29
             refine A_ rfl (J_ (b_ rfl (g_ (c_ (a_ (e_ rfl) rfl (d_ (b_ rfl (u_ ?_))))))))
             exact Y_ ee_ () (aH_ rfl (by unfold Con.fieldErr; simp only [Con.kind, Con.parts, Con.name, Con.lo, Con.hi]; simp only [hnd]; repeat (first | rfl | exact (if_pos (by omega)).symm | (rw [if_pos (by first | omega | (simp_all; done) | (simp_all; omega) | grind)]; first | done | rfl) | (rw [if_neg (by first | omega | (simp_all; done) | (simp_all; omega) | grind)])))) (.refl _) (fun _ _ _ => trivial)
            ·
             simp at hr29
             try dsimp only [Con.kind, Con.parts, Con.name, Con.lo, Con.hi, Con.cap, Con.ad] at hr29
             refine w_ rfl (g_ (c_ (a_ (e_ rfl) rfl (d_ (b_ rfl (u_ ?_))))))
             exact Y_ ee_ () (aH_ rfl (by unfold Con.fieldErr; simp only [Con.kind, Con.parts, Con.name, Con.lo, Con.hi]; simp only [hnd]; repeat (first | rfl | exact (if_pos (by omega)).symm | (rw [if_pos (by first | omega | (simp_all; done) | (simp_all; omega) | grind)]; first | done | rfl) | (rw [if_neg (by first | omega | (simp_all; done) | (simp_all; omega) | grind)])))) (.refl _) (fun _ _ _ => trivial)
         ·
          simp at hr24
          try dsimp only [Con.kind, Con.parts, Con.name, Con.lo, Con.hi, Con.cap, Con.ad] at hr24
          refine w_ rfl (g_ (c_ (a_ (e_ rfl) rfl (d_ (b_ rfl (u_ ?_))))))
          exact Y_ ee_ () (aH_ rfl (by unfold Con.fieldErr; simp only [Con.kind, Con.parts, Con.name, Con.lo, Con.hi]; simp only [hnd]; repeat (first | rfl | exact (if_pos (by omega)).symm | (rw [if_pos (by first | omega | (simp_all; done) | (simp_all; omega) | grind)]; first | done | rfl) | (rw [if_neg (by first | omega | (simp_all; done) | (simp_all; omega) | grind)])))) (.refl _) (fun _ _ _ => trivial)
     ·
      simp at hr7
      try dsimp only [Con.kind, Con.parts, Con.name, Con.lo, Con.hi, Con.cap, Con.ad] at hr7
      refine w_ rfl (g_ (c_ (a_ (e_ rfl) rfl (d_ (b_ rfl (u_ ?_))))))
      exact Y_ ee_ () (aH_ rfl (by unfold Con.fieldErr; simp only [Con.kind, Con.parts, Con.name, Con.lo, Con.hi]; simp only [hnd]; repeat (first | rfl | exact (if_pos (by omega)).symm | (rw [if_pos (by first | omega | (simp_all; done) | (simp_all; omega) | grind)]; first | done | rfl) | (rw [if_neg (by first | omega | (simp_all; done) | (simp_all; omega) | grind)])))) (.refl _) (fun _ _ _ => trivial)
  ·
   simp at hr2
   try dsimp only [Con.kind, Con.parts, Con.name, Con.lo, Con.hi, Con.cap, Con.ad] at hr2
   refine w_ rfl (g_ (c_ (a_ (e_ rfl) rfl (d_ (b_ rfl (u_ ?_))))))
   exact Y_ ee_ () (aH_ rfl (by unfold Con.fieldErr; simp only [Con.kind, Con.parts, Con.name, Con.lo, Con.hi]; repeat (first | rfl | exact (if_pos (by omega)).symm | (rw [if_pos (by first | omega | (simp_all; done) | (simp_all; omega) | grind)]; first | done | rfl) | (rw [if_neg (by first | omega | (simp_all; done) | (simp_all; omega) | grind)])))) (.refl _) (fun _ _ _ => trivial)
end Go.Proofs.YtaffcjgphlhppaaGreatDoor
