/-
  Part of the proofs over this seat: the small logic, the data, the contracts of functions (no condition).
-/
import Derived.Test.YtoafjmalfclpoaaGreatDoorPk1
import Derived.Below
import Derived.MapKept
import Derived.Deep.Draws
import Derived.Sort.Grow
import Derived.Lib.Join
import Derived.Lib.ItoaLen
import Derived.Laws.StructEq
import Derived.Laws.MakeOwn
import Derived.Shelf.Strings.Builder1
import Derived.Shelf.Strings.Builder2
import Derived.Shelf.Strings.OnBuilder
import Derived.Shelf.Small.Bits
import Derived.Shelf.Small.Strs
import Derived.Shelf.Small.Wraps
import Derived.Shelf.Strconv.Itoa0
import Derived.Shelf.Strconv.Itoa1
import Derived.Shelf.LaysM
import Derived.Shelf.Strconv.Itoa2
import Derived.Shelf.Strconv.Itoa3
import Derived.Shelf.Strings.Search1
import Derived.Shelf.Strings.Search2
import Derived.Shelf.Strings.Search3
import Derived.Shelf.Strings.Cut
import Derived.Shelf.Strings.Count
import Derived.Shelf.Strings.Shaped
import Derived.Shelf.Sort.Plain
import Derived.Shelf.Unicode.DecodeSlow
import Derived.Shelf.Slices.CompactS
import Derived.Shelf.Slices.Cells
import Derived.Shelf.Slices.In.SortNone
import Derived.Test.YtoafjmalfclpoaaGreatDoorProg
set_option linter.unusedVariables false
set_option linter.unusedSimpArgs false
set_option linter.unusedSectionVars false
/-
  The small logic: maps, blocks that are given away, contracts out of the library's shelf.
-/
namespace Go.Sx
open Go
def objF (b : Nat) (o : Obj) : Fct where
  p := fun v => v.im b ∧ v.w.heap[b]? = some o
  mono := fun v v' h hp => ⟨h.imUp b hp.1, by rw [h.block b hp.1]; exact hp.2⟩
section
variable {P : Program} {N : Nat} {v0 : Vw} {H0 : Hp} {R : Exit → Act → World → Prop} {K : List Kt} {fr : Fr} {H : Hp} {Γ : List Fct}
variable {ops : Array Oper} {l : List Oper} {d : Nat} {ty : TypeId} {ps : String} {af : Array Edge}

theorem ok_giveO {k : Act → World → Prop} {b : Nat} {o : Obj} (i : Nat) (hi : H[i]? = some (b, o)) (h : Ok N v0 H0 k fr (H.eraseIdx i) (objF b o :: Γ)) : Ok N v0 H0 k fr H Γ :=
  ok_give (objF b o) (perm_at hi) (fun _ h1 h2 _ => ⟨h1, h2⟩) h

theorem ops_mkmap {t : TypeId} (hN : Nat.blt d N = true) (hk : ∀ b, Ops P R N v0 H0 ops l K ((d, .map (some b)) :: fr) ((b, .map #[] 0) :: H) Γ) :
    Ops P R N v0 H0 ops (⟨some d, .makeMap t none, ty, ps, af, none⟩ :: l) K fr H Γ :=
  ops_new (x := fun b => .map (some b)) hN (fun a v h1 _ _ => by simp [execOp, Instr.makeMap, newObj]; rfl) hk

def KeyOk (P : Program) (k : TypeId) (key : Value) : Prop := ∀ e w, (Instr.checkKey e 10000 k key).run P w = .ok () w
def Finds (P : Program) (k : TypeId) (key : Value) (es : List MapEntry) (r : Option (Nat × Value)) : Prop := ∀ w, (Instr.findKey k key es).run P w = .ok r w

theorem keyOk_int {k : TypeId} {i : IntKind} {n : Int} (hd : P.underlying k = some (.int i)) : KeyOk P k (.int i n) := fun e w => by
  exact key (9999) e w
where key (m : Nat) (e : Bool) (w : World) : (Instr.checkKey e (m + 1) k (.int i n)).run P w = .ok () w := by simp [Instr.checkKey, run_underlying hd]
theorem finds_now {k : TypeId} {dd : TypeDesc} {key : Value} {es : List MapEntry} {r : Option (Nat × Value)} (hd : P.underlying k = some dd) (h : Instr.findNow dd key es 0 = some r) : Finds P k key es r := fun w => by
  simp [Instr.findKey, run_underlying hd, h]

theorem yld_lookup {t kt et : TypeId} {x y : Operand} {b c i : Nat} {es : Array MapEntry} {key u : Value} (hu : ∀ w, (underlying t).run P w = .ok (.map kt et) w) (hx : Fr.ev fr x = some (.map (some b))) (hy : Fr.ev fr y = some key)
    (hm : ∀ v, v.sat H → holds Γ v → v.w.heap[b]? = some (.map es c)) (hk : KeyOk P kt key) (hf : Finds P kt key es.toList (some (i, u))) : Yld P N fr H Γ (.lookup t x y false) ty u :=
  fun a v h1 h2 h4 _ _ _ => by
    have hb := MapKept.run_getObj_map (P := P) (hm v h2 h4)
    simp [execOp, h1.ev hx, h1.ev hy, Instr.lookup, hu, hb, hk _ _, hf _]

theorem yld_lookupNo {t kt et : TypeId} {x y : Operand} {b c : Nat} {es : Array MapEntry} {key z : Value} (hu : ∀ w, (underlying t).run P w = .ok (.map kt et) w) (hz : ∀ w, (zeroValue et).run P w = .ok z w) (hx : Fr.ev fr x = some (.map (some b))) (hy : Fr.ev fr y = some key)
    (hm : ∀ v, v.sat H → holds Γ v → v.w.heap[b]? = some (.map es c)) (hk : KeyOk P kt key) (hf : Finds P kt key es.toList none) : Yld P N fr H Γ (.lookup t x y false) ty z :=
  fun a v h1 h2 h4 _ _ _ => by
    have hb := MapKept.run_getObj_map (P := P) (hm v h2 h4)
    simp [execOp, h1.ev hx, h1.ev hy, Instr.lookup, hu, hb, hk _ _, hf _, hz]

theorem ops_insert {o : Op} {t kt et : TypeId} {x y z : Operand} {b c : Nat} (i : Nat) {es : Array MapEntry} {key u : Value} (ho : o = .insert t x y z ∨ o = .mapUpdate t x y z) (hu : ∀ w, (underlying t).run P w = .ok (.map kt et) w)
    (hx : Fr.ev fr x = some (.map (some b))) (hy : Fr.ev fr y = some key) (hz : Fr.ev fr z = some u) (hi : H[i]? = some (b, .map es c)) (hk : KeyOk P kt key) (hf : Finds P kt key es.toList none)
    (hkk : Ops P R N v0 H0 ops l K fr (H.set i (b, .map (es.push ⟨key, u, c⟩) (c + 1))) Γ) : Ops P R N v0 H0 ops (⟨none, o, ty, ps, af, none⟩ :: l) K fr H Γ :=
  ops_of_wp rfl fun a v h1 h2 h3 h4 => by
    have hb := (h2.own _ (List.mem_of_getElem? hi)).1
    have hg := MapKept.run_getObj_map (P := P) hb
    have hs := MapKept.run_setObj_map (P := P) (.map (es.push ⟨key, u, c⟩) (c + 1)) hb
    have he : (execOp a.eval ⟨none, o, ty, ps, af, none⟩).run P v.w = .ok .skip { v.w with heap := v.w.heap.setIfInBounds b (.map (es.push ⟨key, u, c⟩) (c + 1)) } := by
      rcases ho with rfl | rfl <;> simp [execOp, h1.ev hx, h1.ev hy, h1.ev hz, Instr.mapUpdate, hu, hg, hk _ _, hf _, hs]
    unfold Oper.wp
    rw [he]
    have hh := MapKept.heap_set (o' := .map (es.push ⟨key, u, c⟩) (c + 1)) hb
    obtain ⟨g1, g2⟩ := sat_set (w' := { v.w with heap := v.w.heap.setIfInBounds b (.map (es.push ⟨key, u, c⟩) (c + 1)) }) h2 hi rfl rfl rfl (by simp) hh.1 (fun k hk => hh.2 k hk)
    exact hkk a _ h1 g1 (h3.trans g2) (holds_mono (g2.le h2) h4)

theorem tri_of_calls {f : FuncId} {args : Array Value} {r : Value} (hc : Callable P f) (h : ∀ v : Vw, v.sat H → holds Γ v → Calls P f args v.w fun e w' => e = .returned r ∧ RowKit.Below v.w.heap.size v.w w') : Tri P f args H Γ (fun _ : Unit => r) (fun _ => H) (fun _ => []) :=
  ⟨hc, fun v h1 h2 => (h v h1 h2).mono fun e w' ⟨he, hb⟩ => by
    have hsz : v.w.heap.size ≤ w'.heap.size := hb.size
    have hlt : ∀ p ∈ H, p.1 < v.w.heap.size := fun p hp => (Array.getElem?_eq_some_iff.1 (h1.own p hp).1).1
    refine ⟨(), ⟨v.im, w'⟩, he, rfl, ⟨fun p hp => ⟨?_, (h1.own p hp).2⟩, h1.nodup, fun b hbb => Nat.lt_of_lt_of_le (h1.lt b hbb) hsz⟩, trivial, ⟨hb.os, hb.tape, hb.output, hsz, fun b hbb _ => hb.block b hbb, fun _ h => h, fun _ h => .inl h, fun _ h => .inl h⟩⟩
    show w'.heap[p.1]? = _
    rw [hb.block p.1 (hlt p hp)]
    exact (h1.own p hp).1⟩

theorem below_grow (w : World) (k : Nat) (os : Array Obj) : RowKit.Below w.heap.size w (Go.Sort.grow (w.drewN k) os) :=
  ⟨rfl, rfl, rfl, by simp [Go.Sort.grow], fun b hb => by simp only [Go.Sort.grow, World.heap_drewN]; rw [Array.getElem?_append_left hb]⟩

theorem eltOf {t e : TypeId} {sz by' : Nat} {z : Value} (hu : P.underlying t = some (.slice e)) (hi : (P.info? e).map (fun i => (i.zero, i.size, i.bytes)) = some (some z, sz, by')) (hz : z.cells.size = sz) (hp : 0 < sz) : Elt P t e sz by' := by
  refine ⟨hu, ?_, hp⟩
  cases h : P.info? e with
  | none => rw [h] at hi; cases hi
  | some i =>
    rw [h] at hi
    simp only [Option.map_some, Option.some.injEq, Prod.mk.injEq] at hi
    exact ⟨i, z, rfl, hi.1, hi.2.1, hi.2.2, hz⟩

theorem own_news {b : Nat} {cs : List Value} {T : TypeId} {fz : Nat × Nat} (i : Nat) (hi : H[i]? = some (b, .cells cs.toArray T fz)) : ∀ v : Vw, v.sat H → holds Γ v → ∀ j u, cs[j]? = some u → v.w.cell? ((⟨b, 0, none⟩ : Addr).add j) = some u := by
  intro v h1 _ j u hj
  rw [addr_add, Nat.zero_add, own_cell h1 hi]
  simpa using hj

theorem retR {fn : Func} {ι : Type} {F : Hp} {ret : ι → Value} {H' : ι → Hp} {Γ' : ι → List Fct} (x : ι) (hx : ∀ (a : Act) (v : Vw), Fr.sat N fr a → v.sat H → (results fn a.tmps).run P v.w = .ok (ret x) v.w) (hH : H.Perm (H' x ++ F))
    (hΓ : ∀ v, v.sat H → holds Γ v → holds (Γ' x) v) : Ok N v0 H0 (bodyPost P fn (Post v0 H0 ret H' Γ') .ret) fr H Γ :=
  fun a v h1 h2 h3 h4 => ⟨h1.defers, ret x, hx a v h1 h2, x, v, rfl, rfl, (h2.perm hH).sub, hΓ v h2 h4, h3.subR fun b hb => by
    have : b ∈ (H' x ++ F).map Prod.fst := by rw [List.map_append]; exact List.mem_append_left _ hb
    exact (hH.map Prod.fst).mem_iff.2 this⟩

theorem res_cellS {fn : Func} {t b n : Nat} {ty T : TypeId} {us : List Value} (i : Nat) (hr : fn.results = #[.cell t ty]) (ha : ∀ w, (isAgg ty).run P w = .ok true w) (hs : ∀ w, (sizeOf ty).run P w = .ok n w) (hn : us.length = n) (hx : Fr.get fr t = some (.pointer (some ⟨b, 0, none⟩)))
    (hi : H[i]? = some (b, .cells us.toArray T (0, 0))) (a : Act) (v : Vw) (h1 : Fr.sat N fr a) (h2 : v.sat H) : (results fn a.tmps).run P v.w = .ok (.agg us.toArray) v.w := by
  have e := h1.val t _ hx
  have hl := run_loadVar_agg (t := ty) (w := v.w) (b := b) (off := 0) ha hs hn (fun j y hj => by rw [Nat.zero_add, own_cell h2 hi]; simpa using hj)
  simp [results, hr, e, asAddr, hl]

theorem any_many {Hs : Hp} {Γs : List Fct} {fuel : Nat} {listed : Array Bool} (is : List Nat) (hr : Region.ready .any ops listed = is) (hne : is ≠ [])
    (h : ∀ i, i ∈ is → ∃ o, ops[i]? = some o ∧ Ops P R N v0 H0 ops [o] (.inv (Nx P R ops Hs Γs fuel (listed.setIfInBounds i true) K) :: K) fr H Γ) : Any P R N v0 H0 ops Hs Γs (fuel + 1) listed K fr H Γ := by
  intro a v h1 h2 h3 h4
  refine wpAnyH_all hr hne fun j hj => ?_
  obtain ⟨o, hi, h⟩ := h j hj
  have := h a v h1 h2 h3 h4
  unfold wpOp
  simp only [hi]
  unfold wpList at this
  split
  · rename_i hw
    rw [if_pos hw] at this
    rcases this with q | q
    · left
      unfold Oper.wp at q ⊢
      generalize (execOp a.eval o).run P v.w = r at q ⊢
      cases r with
      | ok n w' =>
        cases n <;> simp only [Oper.upon] at q ⊢ <;> exact q
      | halt x w' =>
        cases x <;> simp only [Oper.upon] at q ⊢
        case panic u => exact q
    · exact .inr q
  · rename_i hw
    rw [if_neg hw] at this
    exact this
theorem any_two {Hs : Hp} {Γs : List Fct} {fuel : Nat} {listed : Array Bool} (i j : Nat) {o o' : Oper} (hi : ops[i]? = some o) (hj : ops[j]? = some o') (hr : Region.ready .any ops listed = [i, j])
    (h : Ops P R N v0 H0 ops [o] (.inv (Nx P R ops Hs Γs fuel (listed.setIfInBounds i true) K) :: K) fr H Γ) (h' : Ops P R N v0 H0 ops [o'] (.inv (Nx P R ops Hs Γs fuel (listed.setIfInBounds j true) K) :: K) fr H Γ) : Any P R N v0 H0 ops Hs Γs (fuel + 1) listed K fr H Γ :=
  any_many [i, j] hr (by simp) fun k hk => by
    simp only [List.mem_cons, List.not_mem_nil, or_false] at hk
    rcases hk with rfl | rfl
    · exact ⟨o, hi, h⟩
    · exact ⟨o', hj, h'⟩

theorem SRow.some {e : TypeId} {sz n : Nat} {sv : Value} {xs : List Value} {Hr : Hp} (h : SRow e sz sv n xs Hr) (hn : n ≠ 0) :
    ∃ g cap cur, sv = .slice (some ⟨g, 0, none⟩) n cap ∧ Hr = [(g, .cells cur e (0, 0))] ∧ n ≤ cap ∧ cap ≤ maxLen ∧ cur.size = cap * sz ∧ cur.toList.take (n * sz) = xs := by
  rcases h.2 with ⟨_, h2, _⟩ | h2
  · exact absurd h2 hn
  · exact h2
theorem one_all {us : List Value} (h : us.all Value.oneCell' = true) : ∀ u ∈ us, u.oneCell' = true := fun u hu => List.all_eq_true.1 h u hu

theorem run_drawH {id : Nat} (Hs : Hp) (hm : P.follows .mixedOrders = true) (h : Any P R N v0 H0 ops Hs Γ ops.size (Array.replicate ops.size false) K fr H Γ) : Run P R N v0 H0 (.region id ops true) K fr H Γ := run_draw Hs Γ hm h

theorem retG {fn : Func} {ι : Type} {F : Hp} {ret : ι → Value} {H' : ι → Hp} {Γ' : ι → List Fct} (x : ι) (hx : ∀ (a : Act) (v : Vw), Fr.sat N fr a → v.sat H → holds Γ v → (results fn a.tmps).run P v.w = .ok (ret x) v.w) (hH : H.Perm (H' x ++ F))
    (hΓ : ∀ v, v.sat H → holds Γ v → holds (Γ' x) v) : Ok N v0 H0 (bodyPost P fn (Post v0 H0 ret H' Γ') .ret) fr H Γ :=
  fun a v h1 h2 h3 h4 => ⟨h1.defers, ret x, hx a v h1 h2 h4, x, v, rfl, rfl, (h2.perm hH).sub, hΓ v h2 h4, h3.subR fun b hb => by
    have : b ∈ (H' x ++ F).map Prod.fst := by rw [List.map_append]; exact List.mem_append_left _ hb
    exact (hH.map Prod.fst).mem_iff.2 this⟩
theorem res_two {fn : Func} {s t : Nat} {ad ad' : Addr} {ty ty' : TypeId} {u u' : Value} {a : Act} {w : World} (hr : fn.results = #[.cell s ty, .cell t ty']) (ha : ∀ w, (isAgg ty).run P w = .ok false w) (ha' : ∀ w, (isAgg ty').run P w = .ok false w) (h1 : Fr.sat N fr a) (hs : Fr.get fr s = some (.pointer (some ad))) (ht : Fr.get fr t = some (.pointer (some ad')))
    (hc : w.cell? ad = some u) (hc' : w.cell? ad' = some u') : (results fn a.tmps).run P w = .ok (.tuple #[u, u']) w := by
  have e := h1.val s _ hs
  have e' := h1.val t _ ht
  simp [results, hr, e, e', asAddr, run_loadVar_one ha hc, run_loadVar_one ha' hc']
theorem obj_cell {b : Nat} {cs : List Value} {T : TypeId} {fz : Nat × Nat} {v : Vw} (j : Nat) {u : Value} (h : (objF b (.cells cs.toArray T fz)).p v) (hu : cs[j]? = some u) : v.w.cell? ⟨b, j, none⟩ = some u := by
  simp [World.cell?, h.2, hu]
theorem yld_loadO {t : TypeId} {x : Operand} {b off : Nat} {cs : List Value} {T : TypeId} {fz : Nat × Nat} {u : Value} {ty : TypeId} (ha : ∀ w, (isAgg t).run P w = .ok false w) (hx : Fr.ev fr x = some (.pointer (some ⟨b, off, none⟩))) (ho : ∀ v, v.sat H → holds Γ v → (objF b (.cells cs.toArray T fz)).p v) (hu : cs[off]? = some u) : Yld P N fr H Γ (.load t x) ty u :=
  yld_loadX hx fun v h2 h4 => run_loadVar_one ha (obj_cell off (ho v h2 h4) hu)
end
end Go.Sx

/-
  The texts and the atoms of concepts.
-/
namespace Go.Vs
open Go Go.Sx
namespace Con
/-- the text of a concept -/
def text : Con → Str
  | mk k nm lo hi _ _ ps =>
    if k = 1 then [101, 118, 101, 114, 121, 116, 104, 105, 110, 103]
    else if k = 2 then [110, 111, 116, 104, 105, 110, 103]
    else if k = 3 then nm
    else if k = 4 then [123] ++ nm ++ [125]
    else if k = 5 then Lib.join (operands ps) [32, 97, 110, 100, 32]
    else if k = 6 then Lib.join [[115, 111, 109, 101], nm, (operands ps).headD []] [32]
    else Lib.join [nm, [105, 110], Lib.itoa lo, [116, 111], Lib.itoa hi] [32]
where operands : List Con → List Str
  | [] => []
  | p :: ps => (if p.kind = 5 then [40] ++ text p ++ [41] else text p) :: operands ps
def operand (c : Con) : Str := if c.kind = 5 then [40] ++ c.text ++ [41] else c.text
theorem operands_eq : ∀ (ps : List Con), text.operands ps = ps.map operand
  | [] => rfl
  | p :: ps => by simp only [text.operands, List.map_cons, operands_eq ps, operand]
theorem text_eq (c : Con) : c.text =
    if c.kind = 1 then [101, 118, 101, 114, 121, 116, 104, 105, 110, 103]
    else if c.kind = 2 then [110, 111, 116, 104, 105, 110, 103]
    else if c.kind = 3 then c.name
    else if c.kind = 4 then [123] ++ c.name ++ [125]
    else if c.kind = 5 then Lib.join (c.parts.map operand) [32, 97, 110, 100, 32]
    else if c.kind = 6 then Lib.join [[115, 111, 109, 101], c.name, (c.parts.map operand).headD []] [32]
    else Lib.join [c.name, [105, 110], Lib.itoa c.lo, [116, 111], Lib.itoa c.hi] [32] := by
  cases c; simp only [text, operands_eq]; rfl

theorem join_len (sep : Str) : ∀ (xs : List Str), (Lib.join xs sep).length ≤ (xs.map fun x => x.length + sep.length).sum
  | [] => by simp [Lib.join_nil]
  | [x] => by simp [Lib.join_one]
  | x :: y :: r => by
    have h := join_len sep (y :: r)
    have e : Lib.join (x :: y :: r) sep = x ++ sep ++ Lib.join (y :: r) sep := by simp [Lib.join, List.intercalate]
    rw [e]
    simp only [List.length_append, List.map_cons, List.sum_cons] at h ⊢
    omega

/-- all concepts in it have right fields -/
def fine (c : Con) : Prop := c.firstErr = 0
theorem firstErrs_zero : ∀ {ps : List Con}, firstErr.firstErrs ps = 0 ↔ ∀ p ∈ ps, p.firstErr = 0
  | [] => by simp [firstErr.firstErrs]
  | p :: ps => by
    simp only [firstErr.firstErrs, List.mem_cons, forall_eq_or_imp]
    by_cases h : p.firstErr = 0
    · simp [h, firstErrs_zero (ps := ps)]
    · simp [h]
theorem fine_iff (c : Con) : c.fine ↔ c.fieldErr = 0 ∧ ∀ p ∈ c.parts, p.fine := by
  unfold fine
  rw [firstErr_eq]
  by_cases h : c.fieldErr = 0
  · simp [h, firstErrs_zero]
  · simp [h]
theorem fine_part {c p : Con} (h : c.fine) (hp : p ∈ c.parts) : p.fine := ((fine_iff c).1 h).2 p hp

structure Fields (c : Con) : Prop where
  k1 : 1 ≤ c.kind
  k7 : c.kind ≤ 7
  nm : c.name.length ≤ 24
  le : (nd c.kind).2.1 ≤ c.parts.length
  mo : c.parts.length ≤ (nd c.kind).2.2.1

theorem plain_len {s : Str} (h : plainS s = true) : s.length ≤ 24 := by
  unfold plainS at h
  split at h <;> simp_all
theorem reserved_len {s : Str} (h : reservedS s = true) : s.length ≤ 24 := by
  unfold reservedS at h
  simp at h
  omega
theorem fields_of {c : Con} (h : c.fieldErr = 0) : Fields c := by
  unfold fieldErr at h
  split at h
  · cases h
  · rename_i h1
    split at h
    · cases h
    · rename_i h2
      split at h
      · cases h
      · split at h
        · cases h
        · split at h
          · rename_i h5
            simp only [not_or, not_and] at h1 h2
            refine ⟨by omega, by omega, ?_, by omega, by omega⟩
            rcases h5 with h5 | h5 | h5
            · have := h2.2.2 h5
              simp only [ne_eq, Decidable.not_not] at this
              rw [this]; simp
            · exact plain_len h5
            · exact reserved_len h5.2
          · cases h
theorem fields {c : Con} (h : c.fine) : Fields c := fields_of ((fine_iff c).1 h).1

theorem text_len : ∀ (m : Nat) (c : Con), c.sz ≤ m → c.ok → c.fine → c.text.length + 10 ≤ 100 * c.sz
  | 0, c, h => by have := c.sz_pos; omega
  | m + 1, c, h => fun hok hf => by
    have F := fields hf
    have hz := c.sz_pos
    have hpart : ∀ p ∈ c.parts, p.operand.length + 8 ≤ 100 * p.sz := fun p hp => by
      have := text_len m p (by have := sz_part hp; omega) (ok_part hok hp) (fine_part hf hp)
      unfold operand
      split <;> simp <;> omega
    have hsum : (c.parts.map fun p => p.operand.length + 5).sum ≤ 100 * (c.sz - 1) := by
      have key : ∀ ps : List Con, (∀ p ∈ ps, p.operand.length + 8 ≤ 100 * p.sz) → (ps.map fun p => p.operand.length + 5).sum ≤ 100 * sz.szs ps := by
        intro ps
        induction ps with
        | nil => intro _; simp [sz.szs]
        | cons p ps ih =>
          intro hp
          have h1 := hp p (by simp)
          have h2 := ih fun q hq => hp q (by simp [hq])
          simp only [List.map_cons, List.sum_cons, sz.szs]
          omega
      have := key c.parts hpart
      cases c with
      | mk k n l hi a cp ps => simp only [sz, parts] at this ⊢; omega
    rw [text_eq]
    have hlo : (Lib.itoa c.lo).length ≤ 21 := by cases c; exact Lib.itoa_length_le _ hok.2.2.2.1 hok.2.2.2.2.1
    have hhi : (Lib.itoa c.hi).length ≤ 21 := by cases c; exact Lib.itoa_length_le _ hok.2.2.2.2.2.1 hok.2.2.2.2.2.2.1
    have hnm := F.nm
    split
    · simp; omega
    · split
      · simp; omega
      · split
        · omega
        · split
          · simp; omega
          · split
            · have := join_len [32, 97, 110, 100, 32] (c.parts.map operand)
              simp only [List.map_map, List.length_cons, List.length_nil] at this
              have e : (c.parts.map ((fun x : Str => x.length + (0 + 1 + 1 + 1 + 1 + 1)) ∘ operand)).sum = (c.parts.map fun p => p.operand.length + 5).sum := rfl
              rw [e] at this
              omega
            · split
              · rename_i h6
                have h1 : 1 ≤ c.parts.length := by have := F.le; rw [h6] at this; simp [nd, needL] at this; omega
                obtain ⟨p, ps, hps⟩ := List.exists_cons_of_length_pos h1
                have := join_len [32] [[115, 111, 109, 101], c.name, (c.parts.map operand).headD []]
                simp only [hps, List.map_cons, List.headD_cons, List.map_nil, List.sum_cons, List.sum_nil, List.length_cons, List.length_nil] at this hsum ⊢
                omega
              · have := join_len [32] [c.name, [105, 110], Lib.itoa c.lo, [116, 111], Lib.itoa c.hi]
                simp only [List.map_cons, List.map_nil, List.sum_cons, List.sum_nil, List.length_cons, List.length_nil] at this
                omega

theorem fits_sz : ∀ (m : Nat) (c : Con), c.sz ≤ m → ∀ d n, (c.fits d n).1 = true → (c.fits d n).2 = n + c.sz
  | 0, c, h => by have := c.sz_pos; omega
  | m + 1, c, h => fun d n ht => by
    rw [fits_eq] at ht ⊢
    split at ht
    · cases ht
    · rename_i hc
      rw [if_neg hc]
      have key : ∀ ps : List Con, (∀ p ∈ ps, p.sz ≤ m) → ∀ n, (fits.fitss ps (d + 1) n).1 = true → (fits.fitss ps (d + 1) n).2 = n + sz.szs ps := by
        intro ps
        induction ps with
        | nil => intro _ n _; simp [fits.fitss, sz.szs]
        | cons p ps ih =>
          intro hp n ht
          simp only [fits.fitss] at ht ⊢
          split at ht
          · rename_i q hq
            have h1 := fits_sz m p (hp p (by simp)) (d + 1) n (by rw [hq])
            rw [hq] at h1
            have h2 := ih (fun q hq => hp q (by simp [hq])) q ht
            simp only [sz.szs]
            simp only at h1
            omega
          · cases ht
      have := key c.parts (fun p hp => by have := sz_part hp; omega) (n + 1) ht
      rw [this]
      cases c with
      | mk k nn l hi a cp ps => simp only [sz, parts]; omega

theorem check_zero {c : Con} (h : c.check = 0) : c.fine ∧ c.sz ≤ 64 := by
  unfold check at h
  split at h
  · rename_i hf
    have h1 := fits_sz _ c (Nat.le_refl _) 0 0 hf
    have h2 := fits_le _ c (Nat.le_refl _) 0 0 hf
    exact ⟨h, by omega⟩
  · cases h

/-- the text, if it is a concept -/
def textN (c : Con) : Str := if c.check = 0 then c.text else []
theorem textN_len {c : Con} (hok : c.ok) : c.textN.length ≤ 6400 := by
  unfold textN
  split
  · rename_i h
    obtain ⟨h1, h2⟩ := check_zero h
    have := text_len _ c (Nat.le_refl _) hok h1
    omega
  · simp
def operandN (c : Con) : Str := if c.kind = 5 then [40] ++ c.textN ++ [41] else c.textN
def atom (c : Con) : Str :=
  if c.kind = 1 then [42] else if c.kind = 2 then [33] else if c.kind = 3 then c.name else if c.kind = 4 then [123] ++ c.name ++ [125] else [60] ++ c.textN ++ [62]
end Con

theorem take_strs {cur : Array Value} {n : Nat} {xs : List Str} (h : cur.toList.take (n * 1) = xs.flatMap strC) : ∀ (j : Nat) (x : Str), xs[j]? = some x → cur[j]? = some (str x) := by
  intro j x hj
  have h1 := row_cells strC_len hj 0 (str x) rfl
  rw [← h, Nat.mul_one, Nat.add_zero] at h1
  rw [List.getElem?_take] at h1
  split at h1
  · simpa using h1
  · cases h1
theorem strs_at (xs : List Str) : ∀ (j : Nat) (x : Str), xs[j]? = some x → (xs.map str).toArray[j]? = some (str x) := by
  intro j x hj
  simp [hj]
end Go.Vs

/-
  Pieces as data; equality of structs; keys of a map that are structs.
-/
namespace Go.Sx
open Go
section
variable {P : Program}
theorem eqF_nil {d : Nat} {xs ys : Array Value} (w : World) : (Op.eqFields d xs ys []).run P w = .ok true w := by simp [Op.eqFields]
theorem eqF_cons {d : Nat} {xs ys : Array Value} {f : Field} {fs : List Field} {a b : Value} {r s : Bool} {w : World} (hn : (f.name == "_") = false) (hg : ∀ w, (isAgg f.type).run P w = .ok false w) (ha : xs[f.offset]? = some a) (hb : ys[f.offset]? = some b)
    (he : (Op.equalIn d f.type a b).run P w = .ok r w) (hr : (Op.eqFields d xs ys fs).run P w = .ok s w) : (Op.eqFields d xs ys (f :: fs)).run P w = .ok (r && s) w := by
  have hn' : f.name ≠ "_" := by simpa using hn
  simp only [Op.eqFields, hn', ne_eq, not_false_eq_true, if_true, part, Sem.run_bind, hg, Result.andThen_ok, Bool.false_eq_true, if_false, ha, hb, Sem.run_pure, he]
  cases r
  · simp
  · simpa using hr
theorem eqI {d : Nat} {t : TypeId} {k : IntKind} {a b : Int} (h : P.underlying t = some (.int k)) (w : World) : (Op.equalIn (d + 1) t (.int k a) (.int k b)).run P w = .ok (a == b) w := run_equalIn_int w d t k k a b h
theorem eqS {d : Nat} {t : TypeId} {a b : List UInt8} (h : P.underlying t = some .string) (w : World) : (Op.equalIn (d + 1) t (str a) (str b)).run P w = .ok (a == b) w := by
  have := run_equalIn_string w d t ⟨a.toArray⟩ ⟨b.toArray⟩ h
  simp only [ByteArray.toList_eq] at this
  exact this
theorem ckF {e : Bool} {n : Nat} {t : TypeId} {fs : Array Field} {xs : Array Value} {w : World} (hu : P.underlying t = some (.struct fs)) (h : ∀ f ∈ fs.toList, (f.name == "_") = false ∧ (∀ w, (isAgg f.type).run P w = .ok false w) ∧ ∃ a, xs[f.offset]? = some a ∧ (∀ w, (Instr.checkKey e n f.type a).run P w = .ok () w)) :
    (Instr.checkKey e (n + 1) t (.agg xs)).run P w = .ok () w := by
  simp only [Instr.checkKey, Sem.run_bind, run_underlying hu, Result.andThen_ok]
  rw [← Array.forIn_toList]
  generalize fs.toList = l at h
  induction l with
  | nil => simp
  | cons f l ih =>
    obtain ⟨h1, h2, a, h3, h4⟩ := h f (by simp)
    have hn' : f.name ≠ "_" := by simpa using h1
    simp only [List.forIn_cons, hn', ne_eq, not_false_eq_true, if_true, part, Sem.run_bind, h2, Result.andThen_ok, Bool.false_eq_true, if_false, h3, Sem.run_pure, h4]
    exact ih fun g hg => h g (by simp [hg])

/-- where a key lies in a list of keys -/
theorem finds_asking {α : Type} [DecidableEq α] {k : TypeId} {fs : Array Field} {val : α → Value} (hu : P.underlying k = some (.struct fs)) (heq : ∀ p q w, (Op.equal k (val p) (val q)).run P w = .ok (decide (p = q)) w) (p : α) :
    ∀ (l : List α) (es : List MapEntry) (i : Nat), es.map (·.key) = l.map val → (p ∉ l → ∀ w, (Instr.findAsking k (val p) es i).run P w = .ok none w) ∧ (p ∈ l → (∀ x ∈ es, x.val = .bool true) → ∃ j, ∀ w, (Instr.findAsking k (val p) es i).run P w = .ok (some (j, .bool true)) w)
  | [], es, i, h => by
    have : es = [] := by simpa using h
    subst this
    simp [Instr.findAsking]
  | q :: l, [], i, h => by simp at h
  | q :: l, e :: es, i, h => by
    simp only [List.map_cons, List.cons.injEq] at h
    have ih := finds_asking hu heq p l es (i + 1) h.2
    by_cases hpq : p = q
    · subst hpq
      refine ⟨fun hn => absurd List.mem_cons_self hn, fun _ hv => ⟨i, fun w => ?_⟩⟩
      simp only [Instr.findAsking, Sem.run_bind, h.1, heq, Result.andThen_ok, decide_true, if_true, Sem.run_pure, hv e (by simp)]
    · refine ⟨fun hn w => ?_, fun hm hv => ?_⟩
      · simp only [Instr.findAsking, Sem.run_bind, h.1, heq, Result.andThen_ok, hpq, decide_false, Bool.false_eq_true, if_false]
        exact ih.1 (fun h => hn (List.mem_cons_of_mem _ h)) w
      · obtain ⟨j, hj⟩ := ih.2 (by simpa [hpq] using hm) fun x hx => hv x (by simp [hx])
        refine ⟨j, fun w => ?_⟩
        simp only [Instr.findAsking, Sem.run_bind, h.1, heq, Result.andThen_ok, hpq, decide_false, Bool.false_eq_true, if_false]
        exact hj w

theorem finds_struct {α : Type} [DecidableEq α] {k : TypeId} {fs : Array Field} {val : α → Value} (hu : P.underlying k = some (.struct fs)) (heq : ∀ p q w, (Op.equal k (val p) (val q)).run P w = .ok (decide (p = q)) w) (p : α) (l : List α) (es : List MapEntry) (h : es.map (·.key) = l.map val) :
    (p ∉ l → Finds P k (val p) es none) ∧ (p ∈ l → (∀ x ∈ es, x.val = .bool true) → ∃ j, Finds P k (val p) es (some (j, .bool true))) := by
  have hA := finds_asking hu heq p l es 0 h
  have hnow : ∀ (e : MapEntry) (r : List MapEntry), Instr.findNow (.struct fs) (val p) (e :: r) 0 = none := fun e r => by simp [Instr.findNow, Instr.sameNow]
  cases es with
  | nil =>
    have : l = [] := by simpa using h.symm
    subst this
    exact ⟨fun _ w => by simp [Instr.findKey, run_underlying hu, Instr.findNow], fun h => by simp at h⟩
  | cons e r =>
    refine ⟨fun hn w => ?_, fun hm hv => ?_⟩
    · simp only [Instr.findKey, Sem.run_bind, run_underlying hu, Result.andThen_ok, hnow]
      exact hA.1 hn w
    · obtain ⟨j, hj⟩ := hA.2 hm hv
      refine ⟨j, fun w => ?_⟩
      simp only [Instr.findKey, Sem.run_bind, run_underlying hu, Result.andThen_ok, hnow]
      exact hj w
end
end Go.Sx
namespace Go.Vs
open Go Go.Sx
structure Pc where
  kind : Int
  a : Str
  b : Str
  c : Str
  r : Str
  s : Str
  t : Str
  lo : Int
  hi : Int
  frm : Int
  deriving DecidableEq
namespace Pc
def cells (p : Pc) : List Value := [.int .i64 p.kind, str p.a, str p.b, str p.c, str p.r, str p.s, str p.t, .int .i64 p.lo, .int .i64 p.hi, .int .i64 p.frm]
def val (p : Pc) : Value := .agg p.cells.toArray
theorem cells_len (p : Pc) : p.cells.length = 10 := rfl
theorem cells_one (p : Pc) : p.cells.all Value.oneCell' = true := rfl
def eqb (p q : Pc) : Bool := (p.kind == q.kind) && ((p.a == q.a) && ((p.b == q.b) && ((p.c == q.c) && ((p.r == q.r) && ((p.s == q.s) && ((p.t == q.t) && ((p.lo == q.lo) && ((p.hi == q.hi) && ((p.frm == q.frm) && true)))))))))
theorem eqb_eq (p q : Pc) : p.eqb q = decide (p = q) := by
  rw [Bool.eq_iff_iff]
  cases p; cases q
  simp [eqb]
end Pc
/-- a piece joins a list, with this From, if it is not there -/
def ins (frm : Int) (l : List Pc) (p : Pc) : List Pc := if { p with frm := frm } ∈ l then l else l ++ [{ p with frm := frm }]
theorem ins_len (frm : Int) (l : List Pc) (p : Pc) : (ins frm l p).length ≤ l.length + 1 := by unfold ins; split <;> simp
structure Fc where
  kind : Int
  a : Str
  b : Str
  r : Str
  lo : Int
  hi : Int
  deriving DecidableEq
namespace Fc
def cells (p : Fc) : List Value := [.int .i64 p.kind, str p.a, str p.b, str p.r, .int .i64 p.lo, .int .i64 p.hi]
def val (p : Fc) : Value := .agg p.cells.toArray
theorem cells_len (p : Fc) : p.cells.length = 6 := rfl
def eqb (p q : Fc) : Bool := (p.kind == q.kind) && ((p.a == q.a) && ((p.b == q.b) && ((p.r == q.r) && ((p.lo == q.lo) && ((p.hi == q.hi) && true)))))
theorem eqb_eq (p q : Fc) : p.eqb q = decide (p = q) := by
  rw [Bool.eq_iff_iff]
  cases p; cases q
  simp [eqb]
end Fc
end Go.Vs

/-
  The pieces of concepts, to the left and to the right.
-/
namespace Go.Sx
open Go
theorem yld_eq {P : Program} {N : Nat} {fr : Fr} {H : Hp} {Γ : List Fct} {op : Op} {ty : TypeId} {x y : Value} (h : Yld P N fr H Γ op ty x) (e : x = y) : Yld P N fr H Γ op ty y := e ▸ h
theorem fm_drop {α : Type} (f : α → List Value) (n : Nat) (hf : ∀ x, (f x).length = n) : ∀ (l : List α) (i : Nat), (l.flatMap f).drop (i * n) = (l.drop i).flatMap f
  | l, 0 => by simp
  | [], i + 1 => by simp
  | x :: l, i + 1 => by
    simp only [List.flatMap_cons, List.drop_succ_cons]
    rw [← fm_drop f n hf l i, List.drop_append, hf, List.drop_of_length_le (by rw [hf, Nat.add_mul]; omega), List.nil_append]
    congr 1
    rw [Nat.add_mul]; omega
theorem fm_take {α : Type} (f : α → List Value) (n : Nat) (hf : ∀ x, (f x).length = n) : ∀ (l : List α) (i : Nat), (l.flatMap f).take (i * n) = (l.take i).flatMap f
  | l, 0 => by simp
  | [], i + 1 => by simp
  | x :: l, i + 1 => by
    simp only [List.flatMap_cons, List.take_succ_cons]
    rw [← fm_take f n hf l i, List.take_append, hf, List.take_of_length_le (by rw [hf, Nat.add_mul]; omega)]
    congr 2
    rw [Nat.add_mul]; omega
/-- a part of a row -/
theorem RowAt.slice {α : Type} {f : α → List Value} {n : Nat} (hf : ∀ x, (f x).length = n) {v : Vw} {ad : Option Addr} {l : List α} {cap : Nat} (h : RowAt v ad (l.flatMap f)) (hc : l.length ≤ cap) (i k : Nat) : RowAt v (Sx.sad ad cap i n) (((l.drop i).take k).flatMap f) := by
  refine h.sad _ (fun j x hj => ?_) (by rw [fm_len f n hf]; exact Nat.mul_le_mul_right _ hc)
  rw [← fm_take f n hf, ← fm_drop f n hf, List.getElem?_take] at hj
  split at hj
  · rwa [List.getElem?_drop] at hj
  · cases hj
end Go.Sx
namespace Go.Vs
open Go Go.Sx
namespace Con
/-- the conjunction of the first parts -/
def pre (c : Con) (j : Nat) : Con := .mk 5 [] 0 0 (sad c.ad c.cap 0 5) (c.cap - 0) (c.parts.take j)
theorem pre_mem {c : Con} (hok : c.ok) {v : Vw} (h : c.mem v) (j : Nat) : (c.pre j).mem v := by
  rw [mem_iff] at h ⊢
  refine ⟨?_, fun p hp => h.2 p (List.mem_of_mem_take hp)⟩
  have := h.1.slice cells_len (ok_len hok).1 0 j
  exact this
theorem pre_ok {c : Con} (hok : c.ok) (j : Nat) : (c.pre j).ok := by
  have h := ok_len hok
  refine ⟨by decide, by decide, by simp, by decide, by decide, by decide, by decide, ?_, by omega, oks_iff.2 fun p hp => ok_part hok (List.mem_of_mem_take hp)⟩
  simp; omega

def andP (frm : Int) (c : Con) : List Con → Nat → Str → List Pc → List Pc
  | [], _, _, l => l
  | p :: r, j, f, l => andP frm c r (j + 1) (c.pre (j + 1)).atom (ins frm l ⟨2, f, p.atom, (c.pre (j + 1)).atom, [], [], [], 0, 0, 0⟩)
theorem andP_len (frm : Int) (c : Con) : ∀ (r : List Con) (j : Nat) (f : Str) (l : List Pc), (andP frm c r j f l).length ≤ l.length + r.length
  | [], _, _, l => by simp [andP]
  | p :: r, j, f, l => by
    have h1 := andP_len frm c r (j + 1) (c.pre (j + 1)).atom (ins frm l ⟨2, f, p.atom, (c.pre (j + 1)).atom, [], [], [], 0, 0, 0⟩)
    have h2 := ins_len frm l ⟨2, f, p.atom, (c.pre (j + 1)).atom, [], [], [], 0, 0, 0⟩
    simp only [andP, List.length_cons]
    omega

/-- the left pieces -/
def leftP (frm : Int) : Con → List Pc → List Pc
  | c@(mk k nm lo hi _ _ ps), l =>
    if k = 5 then andP frm c (ps.drop 1) 1 ((ps.map atom).headD []) (lefts frm ps l)
    else if k = 6 then ins frm (lefts frm ps l) ⟨4, (ps.map atom).headD [], [], c.atom, nm, [], [], 0, 0, 0⟩
    else if k = 7 then ins frm l ⟨9, [], [], c.atom, nm, [], [], lo, hi, 0⟩
    else l
where lefts (frm : Int) : List Con → List Pc → List Pc
  | [], l => l
  | p :: ps, l => lefts frm ps (leftP frm p l)
theorem leftP_eq (frm : Int) (c : Con) (l : List Pc) : c.leftP frm l =
    if c.kind = 5 then andP frm c (c.parts.drop 1) 1 ((c.parts.map atom).headD []) (leftP.lefts frm c.parts l)
    else if c.kind = 6 then ins frm (leftP.lefts frm c.parts l) ⟨4, (c.parts.map atom).headD [], [], c.atom, c.name, [], [], 0, 0, 0⟩
    else if c.kind = 7 then ins frm l ⟨9, [], [], c.atom, c.name, [], [], c.lo, c.hi, 0⟩
    else l := by cases c; simp only [leftP]; rfl
theorem lefts_append (frm : Int) : ∀ (xs ys : List Con) (l : List Pc), leftP.lefts frm (xs ++ ys) l = leftP.lefts frm ys (leftP.lefts frm xs l)
  | [], _, _ => rfl
  | x :: xs, ys, l => by simp only [List.cons_append, leftP.lefts]; exact lefts_append frm xs ys _
theorem lefts_step (frm : Int) {ps : List Con} {p : Con} {i : Nat} (hp : ps[i]? = some p) (l : List Pc) : leftP.lefts frm (ps.take (i + 1)) l = p.leftP frm (leftP.lefts frm (ps.take i) l) := by
  rw [take_snoc hp, lefts_append]; rfl
theorem szs_len : ∀ ps : List Con, ps.length ≤ sz.szs ps
  | [] => by simp [sz.szs]
  | p :: ps => by have := szs_len ps; have := p.sz_pos; simp only [sz.szs, List.length_cons]; omega
theorem leftP_len (frm : Int) : ∀ (m : Nat) (c : Con), c.sz ≤ m → ∀ l, (c.leftP frm l).length + 2 ≤ l.length + 2 * c.sz + 0 + 1
  | 0, c, h => by have := c.sz_pos; omega
  | m + 1, c, h => fun l => by
    have key : ∀ ps : List Con, (∀ p ∈ ps, p.sz ≤ m) → ∀ l, (leftP.lefts frm ps l).length + ps.length ≤ l.length + 2 * sz.szs ps := by
      intro ps
      induction ps with
      | nil => intro _ l; simp [leftP.lefts]
      | cons p ps ih =>
        intro hp l
        have h1 := leftP_len frm m p (hp p (by simp)) l
        have h2 := ih (fun q hq => hp q (by simp [hq])) (p.leftP frm l)
        simp only [leftP.lefts, sz.szs, List.length_cons]
        omega
    have hk := key c.parts (fun p hp => by have := sz_part hp; omega) l
    have hsz : c.sz = 1 + sz.szs c.parts := by cases c; simp only [sz, parts]
    have hl := szs_len c.parts
    rw [leftP_eq]
    split
    · have := andP_len frm c (c.parts.drop 1) 1 ((c.parts.map atom).headD []) (leftP.lefts frm c.parts l)
      simp only [List.length_drop] at this
      omega
    · split
      · have := ins_len frm (leftP.lefts frm c.parts l) ⟨4, (c.parts.map atom).headD [], [], c.atom, c.name, [], [], 0, 0, 0⟩
        omega
      · split
        · have := ins_len frm l ⟨9, [], [], c.atom, c.name, [], [], c.lo, c.hi, 0⟩
          omega
        · omega

/-- the right pieces -/
def rightP (frm : Int) : Con → List Pc → List Pc
  | c@(mk k nm lo hi _ _ ps), l =>
    if k = 5 then rights frm c.atom ps l
    else if k = 6 then righty frm ps (ins frm l ⟨3, c.atom, [], (ps.map atom).headD [], nm, [], [], 0, 0, 0⟩)
    else if k = 7 then ins frm l ⟨8, c.atom, [], [], nm, [], [], lo, hi, 0⟩
    else l
where
  rights (frm : Int) (a : Str) : List Con → List Pc → List Pc
  | [], l => l
  | p :: ps, l => rights frm a ps (rightP frm p (ins frm l ⟨1, a, [], p.atom, [], [], [], 0, 0, 0⟩))
  righty (frm : Int) : List Con → List Pc → List Pc
  | [], l => l
  | p :: ps, l => righty frm ps (rightP frm p l)
theorem rightP_eq (frm : Int) (c : Con) (l : List Pc) : c.rightP frm l =
    if c.kind = 5 then rightP.rights frm c.atom c.parts l
    else if c.kind = 6 then rightP.righty frm c.parts (ins frm l ⟨3, c.atom, [], (c.parts.map atom).headD [], c.name, [], [], 0, 0, 0⟩)
    else if c.kind = 7 then ins frm l ⟨8, c.atom, [], [], c.name, [], [], c.lo, c.hi, 0⟩
    else l := by cases c; simp only [rightP]; rfl
theorem rights_append (frm : Int) (a : Str) : ∀ (xs ys : List Con) (l : List Pc), rightP.rights frm a (xs ++ ys) l = rightP.rights frm a ys (rightP.rights frm a xs l)
  | [], _, _ => rfl
  | x :: xs, ys, l => by simp only [List.cons_append, rightP.rights]; exact rights_append frm a xs ys _
theorem rights_step (frm : Int) (a : Str) {ps : List Con} {p : Con} {i : Nat} (hp : ps[i]? = some p) (l : List Pc) : rightP.rights frm a (ps.take (i + 1)) l = p.rightP frm (ins frm (rightP.rights frm a (ps.take i) l) ⟨1, a, [], p.atom, [], [], [], 0, 0, 0⟩) := by
  rw [take_snoc hp, rights_append]; rfl
theorem rightP_len (frm : Int) : ∀ (m : Nat) (c : Con), c.sz ≤ m → ∀ l, (c.rightP frm l).length + 1 ≤ l.length + 2 * c.sz
  | 0, c, h => by have := c.sz_pos; omega
  | m + 1, c, h => fun l => by
    have key : ∀ ps : List Con, (∀ p ∈ ps, p.sz ≤ m) → ∀ a l, (rightP.rights frm a ps l).length ≤ l.length + 2 * sz.szs ps := by
      intro ps
      induction ps with
      | nil => intro _ a l; simp [rightP.rights, sz.szs]
      | cons p ps ih =>
        intro hp a l
        have h0 := ins_len frm l ⟨1, a, [], p.atom, [], [], [], 0, 0, 0⟩
        have h1 := rightP_len frm m p (hp p (by simp)) (ins frm l ⟨1, a, [], p.atom, [], [], [], 0, 0, 0⟩)
        have h2 := ih (fun q hq => hp q (by simp [hq])) a (p.rightP frm (ins frm l ⟨1, a, [], p.atom, [], [], [], 0, 0, 0⟩))
        simp only [rightP.rights, sz.szs]
        omega
    have key2 : ∀ ps : List Con, (∀ p ∈ ps, p.sz ≤ m) → ∀ l, (rightP.righty frm ps l).length ≤ l.length + 2 * sz.szs ps := by
      intro ps
      induction ps with
      | nil => intro _ l; simp [rightP.righty, sz.szs]
      | cons p ps ih =>
        intro hp l
        have h1 := rightP_len frm m p (hp p (by simp)) l
        have h2 := ih (fun q hq => hp q (by simp [hq])) (p.rightP frm l)
        simp only [rightP.righty, sz.szs]
        omega
    have hps : ∀ p ∈ c.parts, p.sz ≤ m := fun p hp => by have := sz_part hp; omega
    have hsz : c.sz = 1 + sz.szs c.parts := by cases c; simp only [sz, parts]
    rw [rightP_eq]
    split
    · have := key c.parts hps c.atom l; omega
    · split
      · have h0 := ins_len frm l ⟨3, c.atom, [], (c.parts.map atom).headD [], c.name, [], [], 0, 0, 0⟩
        have := key2 c.parts hps (ins frm l ⟨3, c.atom, [], (c.parts.map atom).headD [], c.name, [], [], 0, 0, 0⟩)
        omega
      · split
        · have := ins_len frm l ⟨8, c.atom, [], [], c.name, [], [], c.lo, c.hi, 0⟩
          omega
        · omega
end Con
end Go.Vs

/-
  The pieces of one member of a base.
-/
namespace Go.Sx
open Go
theorem RowAt.rest {α : Type} {f : α → List Value} {n : Nat} (hf : ∀ x, (f x).length = n) {v : Vw} {ad : Option Addr} {l : List α} {cap : Nat} (h : RowAt v ad (l.flatMap f)) (hc : l.length ≤ cap) (i : Nat) : RowAt v (Sx.sad ad cap i n) ((l.drop i).flatMap f) := by
  have := h.slice hf hc i l.length
  rwa [List.take_of_length_le (by simp)] at this
theorem drop_of {α : Type} {l : List α} {x : α} {i : Nat} (hp : l[i]? = some x) : l.drop i = x :: l.drop (i + 1) := by
  have hi := (List.getElem?_eq_some_iff.1 hp).1
  rw [List.getElem?_eq_getElem hi] at hp
  simp only [Option.some.injEq] at hp
  subst hp
  exact List.drop_eq_getElem_cons hi
theorem headD_of {α : Type} {l : List α} {x d : α} (hp : l[0]? = some x) : l.headD d = x := by cases l <;> simp_all
end Go.Sx
namespace Go.Vs
open Go Go.Sx
namespace Ax
def chainP (frm : Int) (role : Str) : List Str → Str → List Pc → List Pc
  | [], _, l => l
  | r :: t, f, l =>
    let all := if t = [] then role else f ++ [46] ++ r
    chainP frm role t all (ins frm l ⟨6, [], [], [], f, r, all, 0, 0, 0⟩)
/-- the pieces of a valid one -/
def pieces (frm : Int) (x : Ax) : List Pc :=
  if x.kind = 1 then ins frm (x.right.rightP frm (x.left.leftP frm [])) ⟨1, x.left.atom, [], x.right.atom, [], [], [], 0, 0, 0⟩
  else if x.kind = 2 then
    ins frm (x.left.rightP frm (x.right.leftP frm (ins frm (x.right.rightP frm (x.left.leftP frm [])) ⟨1, x.left.atom, [], x.right.atom, [], [], [], 0, 0, 0⟩))) ⟨1, x.right.atom, [], x.left.atom, [], [], [], 0, 0, 0⟩
  else if x.kind = 3 then ins frm (x.right.leftP frm (x.left.leftP frm [])) ⟨2, x.left.atom, x.right.atom, [33], [], [], [], 0, 0, 0⟩
  else if x.kind = 4 then ins frm (x.right.rightP frm []) ⟨4, [42], [], x.right.atom, x.role, [], [], 0, 0, 0⟩
  else if x.kind = 5 then ins frm [] ⟨5, [], [], [], x.roles.headD [], [], x.role, 0, 0, 0⟩
  else if x.kind = 6 then chainP frm x.role (x.roles.drop 1) (x.roles.headD []) []
  else if x.kind = 7 then ins frm [] ⟨7, [], [], [], x.role, [], [], 0, 0, 0⟩
  else if x.kind = 8 then ins frm (x.right.rightP frm []) ⟨1, [123] ++ x.a ++ [125], [], x.right.atom, [], [], [], 0, 0, 0⟩
  else ins frm [] ⟨3, [123] ++ x.a ++ [125], [], [123] ++ x.b ++ [125], x.role, [], [], 0, 0, 0⟩

structure Good (x : Ax) : Prop where
  k1 : 1 ≤ x.kind
  k9 : x.kind ≤ 9
  left : x.kind ≤ 3 → x.left.check = 0
  right : x.kind ≤ 4 ∨ x.kind = 8 → x.right.check = 0
  role : x.kind = 4 ∨ x.kind = 5 ∨ x.kind = 6 ∨ x.kind = 7 ∨ x.kind = 9 → plainS x.role = true
  roles : ∀ r ∈ x.roles, plainS r = true
  one : x.kind = 5 → x.roles.length = 1
  chain : x.kind = 6 → 2 ≤ x.roles.length ∧ x.roles.length ≤ 4
  a : x.kind = 8 ∨ x.kind = 9 → personS x.a = true
  b : x.kind = 9 → personS x.b = true
theorem good_of {x : Ax} (h : x.check = 0) : Good x := by
  unfold check at h
  split at h
  · cases h
  · rename_i hs
    split at h
    · cases h
    · rename_i hn
      split at h
      · rename_i h1; exact absurd h h1.2
      · rename_i h1
        split at h
        · rename_i h2; exact absurd h h2.2
        · rename_i h2
          clear h
          simp only [Bool.not_eq_false] at hs hn
          have hk : 1 ≤ x.kind ∧ x.kind ≤ 9 := by
            unfold shaped at hs
            split at hs
            · cases hs
            · rename_i hh; simp only [not_or] at hh; omega
          have hk' : x.kind = 1 ∨ x.kind = 2 ∨ x.kind = 3 ∨ x.kind = 4 ∨ x.kind = 5 ∨ x.kind = 6 ∨ x.kind = 7 ∨ x.kind = 8 ∨ x.kind = 9 := by omega
          unfold shaped at hs
          rw [if_neg (by omega)] at hs
          have hr : ∀ r ∈ x.roles, plainS r = true := by
            unfold namedU at hn
            simp only [Bool.and_eq_true] at hn
            exact fun r hr => List.all_eq_true.1 hn.2 r hr
          unfold namedU at hn
          rcases hk' with e | e | e | e | e | e | e | e | e <;> simp [us, useL, e] at hs hn h1 h2 <;>
            refine ⟨by omega, by omega, fun _ => ?_, fun _ => ?_, fun _ => ?_, hr, fun _ => ?_, fun _ => ?_, fun _ => ?_, fun _ => ?_⟩ <;>
            first | omega | assumption | exact hn.1 | exact hn.2.1 | exact hn.2.2.1 | (simp_all; done) | (exact ⟨by omega, by omega⟩)
end Ax
end Go.Vs

/-
  Lists of axioms and of pieces in memory; the pieces of a list.
-/
namespace Go.Sx
open Go
section
variable {P : Program} {N : Nat} {v0 : Vw} {H0 : Hp} {R : Exit → Act → World → Prop} {K : List Kt} {fr : Fr} {H : Hp} {Γ : List Fct}
variable {ops : Array Oper} {l : List Oper} {d : Nat} {ty : TypeId} {ps : String} {af : Array Edge}
/-- a value of many cells, whole -/
theorem yld_loadV {t : TypeId} {x : Operand} {b n : Nat} (i : Nat) {T : TypeId} {fz : Nat × Nat} {us : List Value} (ha : ∀ w, (isAgg t).run P w = .ok true w) (hs : ∀ w, (sizeOf t).run P w = .ok n w) (hn : us.length = n)
    (hx : Fr.ev fr x = some (.pointer (some ⟨b, 0, none⟩))) (hi : H[i]? = some (b, .cells us.toArray T fz)) : Yld P N fr H Γ (.load t x) ty (.agg us.toArray) :=
  yld_loadS i ha hs hx hi (by have := lcut_all us; rw [hn] at this; exact this)
theorem ops_storeV {t : TypeId} {x y : Operand} {b n : Nat} (i : Nat) {cur : Array Value} {T : TypeId} {us : List Value} (hs : ∀ w, (sizeOf t).run P w = .ok n w) (hn : us.length = n) (h1 : us.all Value.oneCell' = true)
    (hx : Fr.ev fr x = some (.pointer (some ⟨b, 0, none⟩))) (hy : Fr.ev fr y = some (.agg us.toArray)) (hi : H[i]? = some (b, .cells cur T (0, 0))) (hc : cur.size = n)
    (hk : Ops P R N v0 H0 ops l K fr (H.set i (b, .cells us.toArray T (0, 0))) Γ) :
    Ops P R N v0 H0 ops (⟨none, .store t x y, ty, ps, af, none⟩ :: l) K fr H Γ := by
  refine ops_store i hs hx hy hi (by simp [Value.cells, hn]) (by simp [hc]) h1 ?_
  have e : (cur.toList.take 0 ++ (Value.agg us.toArray).cells.toList ++ cur.toList.drop (0 + n)).toArray = us.toArray := by
    have h5 : cur.toList.length = n := by simp [hc]
    simp [Value.cells, List.drop_of_length_le (show cur.toList.length ≤ n by omega)]
  rw [e]
  exact hk
theorem own_newsT {b k : Nat} {cur : Array Value} {T : TypeId} {fz : Nat × Nat} {cs : List Value} (i : Nat) (hi : H[i]? = some (b, .cells cur T fz)) (hc : cur.toList.take k = cs) : ∀ v : Vw, v.sat H → holds Γ v → ∀ j u, cs[j]? = some u → v.w.cell? ((⟨b, 0, none⟩ : Addr).add j) = some u := by
  intro v h1 _ j u hj
  rw [addr_add, Nat.zero_add, own_cell h1 hi]
  rw [← hc, List.getElem?_take] at hj
  split at hj
  · exact hj
  · cases hj
/-- a grown row is given away -/
theorem ok_giveRow {k : Act → World → Prop} {e : TypeId} {sz n : Nat} {sv : Value} {xs : List Value} {Hr F : Hp} (hr : SRow e sz sv n xs Hr) (hH : H.Perm (Hr ++ F))
    (h : ∀ ad cap, sv = .slice ad n cap → n ≤ cap → cap ≤ maxLen → Ok N v0 H0 k fr F (rowF ad xs :: Γ)) : Ok N v0 H0 k fr H Γ := by
  rcases hr.2 with ⟨h1, h2, h3⟩ | ⟨g, cap, cur, h1, h2, h3, h4, h5, h6⟩
  · subst h1 h2 h3
    have hx : xs = [] := List.eq_nil_of_length_eq_zero (by simpa using hr.1)
    refine ok_perm hH (ok_facts (Γ' := rowF none xs :: Γ) (fun v _ hg => ⟨.inl hx, hg⟩) (h none 0 rfl (Nat.le_refl _) (Nat.zero_le _)))
  · subst h1 h2
    refine ok_give (rowF (some ⟨g, 0, none⟩) xs) hH (fun v i1 i2 _ => .inr ⟨g, 0, cur, e, (0, 0), rfl, i1, i2, fun j x hj => ?_⟩) (h _ cap rfl h3 h4)
    rw [← h6, List.getElem?_take] at hj
    split at hj
    · rw [Nat.zero_add]; simpa using hj
    · cases hj
end
end Go.Sx
namespace Go.Vs
open Go Go.Sx
theorem Con.one_cells (c : Con) : c.cells.all Value.oneCell' = true := con_one c
theorem Ax.one_cells (x : Ax) : x.cells.all Value.oneCell' = true := by
  simp only [Ax.cells, List.all_cons, List.all_append, Con.one_cells]; rfl
/-- a list of axioms in memory -/
def axsF (ad : Option Addr) (l : List Ax) : Fct where
  p := fun v => RowAt v ad (l.flatMap Ax.cells) ∧ ∀ x ∈ l, x.mem v
  mono := fun v v' h hp => ⟨(rowF ad _).mono v v' h hp.1, fun x hx => x.memF.mono v v' h (hp.2 x hx)⟩
theorem ins_ne (frm : Int) (l : List Pc) (p : Pc) : ins frm l p ≠ [] := by
  unfold ins
  split
  · rename_i h; intro e; rw [e] at h; simp at h
  · simp
theorem Ax.chainP_ne (frm : Int) (ro : Str) : ∀ (rs : List Str) (f : Str) (l : List Pc), rs ≠ [] ∨ l ≠ [] → Ax.chainP frm ro rs f l ≠ []
  | [], f, l, h => by rcases h with h | h; exact absurd rfl h; exact h
  | r :: t, f, l, _ => by simp only [Ax.chainP]; exact Ax.chainP_ne frm ro t _ _ (.inr (ins_ne _ _ _))
theorem Ax.pieces_ne (frm : Int) {x : Ax} (G : x.Good) : x.pieces frm ≠ [] := by
  unfold Ax.pieces
  repeat' split
  all_goals first | exact ins_ne _ _ _ | skip
  rename_i h6
  have := G.chain h6
  exact Ax.chainP_ne _ _ _ _ _ (.inl (by intro e; rw [List.drop_eq_nil_iff] at e; omega))
def firstBad : List Ax → Int
  | [] => 0
  | x :: l => if x.check = 0 then firstBad l else x.check
def gather : Nat → List Ax → List Pc → Option (List Pc)
  | _, [], p => some p
  | i, x :: l, p => if 16384 < (p ++ x.pieces i).length then none else gather (i + 1) l (p ++ x.pieces i)
def piecesL (l : List Ax) : List Pc × Int :=
  if 1024 < l.length then ([], 2) else if firstBad l ≠ 0 then ([], firstBad l) else match gather 0 l [] with | some p => (p, 0) | none => ([], 2)
theorem firstBad_append : ∀ (xs ys : List Ax), (∀ x ∈ xs, x.check = 0) → firstBad (xs ++ ys) = firstBad ys
  | [], _, _ => rfl
  | x :: xs, ys, h => by simp only [List.cons_append, firstBad, h x (by simp), if_true]; exact firstBad_append xs ys fun y hy => h y (by simp [hy])
theorem firstBad_zero : ∀ {l : List Ax}, (∀ x ∈ l, x.check = 0) → firstBad l = 0
  | [], _ => rfl
  | x :: l, h => by simp only [firstBad, h x (by simp), if_true]; exact firstBad_zero fun y hy => h y (by simp [hy])
theorem firstBad_at {l : List Ax} {x : Ax} {i : Nat} (hx : l[i]? = some x) (h : ∀ y ∈ l.take i, y.check = 0) (hb : x.check ≠ 0) : firstBad l = x.check := by
  have e : l = l.take i ++ x :: l.drop (i + 1) := by rw [← drop_of hx, List.take_append_drop]
  rw [e, firstBad_append _ _ h]
  simp only [firstBad, hb, if_false]
theorem pieces_len (frm : Int) {x : Ax} (G : x.Good) : (x.pieces frm).length ≤ 1000 := by
  have hl : x.kind ≤ 3 → x.left.sz ≤ 64 := fun h => (Con.check_zero (G.left h)).2
  have hr : x.kind ≤ 4 ∨ x.kind = 8 → x.right.sz ≤ 64 := fun h => (Con.check_zero (G.right h)).2
  have hc : ∀ (ro : Str) (rs : List Str) (f : Str) (l : List Pc), (Ax.chainP frm ro rs f l).length ≤ l.length + rs.length := by
    intro ro rs
    induction rs with
    | nil => intro f l; simp [Ax.chainP]
    | cons r t ih =>
      intro f l
      simp only [Ax.chainP]
      have h1 := ih (if t = [] then ro else f ++ [46] ++ r) (ins frm l ⟨6, [], [], [], f, r, if t = [] then ro else f ++ [46] ++ r, 0, 0, 0⟩)
      have h2 := ins_len frm l ⟨6, [], [], [], f, r, if t = [] then ro else f ++ [46] ++ r, 0, 0, 0⟩
      simp only [List.length_cons]
      omega
  have L := fun (c : Con) l => Con.leftP_len frm _ c (Nat.le_refl _) l
  have Rr := fun (c : Con) l => Con.rightP_len frm _ c (Nat.le_refl _) l
  have h0 : ([] : List Pc).length = 0 := rfl
  unfold Ax.pieces
  split
  · have := hl (by omega); have := hr (by omega)
    have a1 := L x.left []; have a2 := Rr x.right (x.left.leftP frm []); have a3 := ins_len frm (x.right.rightP frm (x.left.leftP frm [])) ⟨1, x.left.atom, [], x.right.atom, [], [], [], 0, 0, 0⟩
    omega
  · split
    · have := hl (by omega); have := hr (by omega)
      have a1 := L x.left []; have a2 := Rr x.right (x.left.leftP frm []); have a3 := ins_len frm (x.right.rightP frm (x.left.leftP frm [])) ⟨1, x.left.atom, [], x.right.atom, [], [], [], 0, 0, 0⟩
      have a4 := L x.right (ins frm (x.right.rightP frm (x.left.leftP frm [])) ⟨1, x.left.atom, [], x.right.atom, [], [], [], 0, 0, 0⟩)
      have a5 := Rr x.left (x.right.leftP frm (ins frm (x.right.rightP frm (x.left.leftP frm [])) ⟨1, x.left.atom, [], x.right.atom, [], [], [], 0, 0, 0⟩))
      have a6 := ins_len frm (x.left.rightP frm (x.right.leftP frm (ins frm (x.right.rightP frm (x.left.leftP frm [])) ⟨1, x.left.atom, [], x.right.atom, [], [], [], 0, 0, 0⟩))) ⟨1, x.right.atom, [], x.left.atom, [], [], [], 0, 0, 0⟩
      omega
    · split
      · have := hl (by omega); have := hr (by omega)
        have a1 := L x.left []; have a2 := L x.right (x.left.leftP frm []); have a3 := ins_len frm (x.right.leftP frm (x.left.leftP frm [])) ⟨2, x.left.atom, x.right.atom, [33], [], [], [], 0, 0, 0⟩
        omega
      · split
        · have := hr (by omega)
          have a1 := Rr x.right []; have a3 := ins_len frm (x.right.rightP frm []) ⟨4, [42], [], x.right.atom, x.role, [], [], 0, 0, 0⟩
          omega
        · split
          · have := ins_len frm [] ⟨5, [], [], [], x.roles.headD [], [], x.role, 0, 0, 0⟩; omega
          · split
            · rename_i h6
              have := G.chain h6
              have := hc x.role (x.roles.drop 1) (x.roles.headD []) []
              simp only [List.length_drop] at this
              omega
            · split
              · have := ins_len frm [] ⟨7, [], [], [], x.role, [], [], 0, 0, 0⟩; omega
              · split
                · have := hr (by omega)
                  have a1 := Rr x.right []; have a3 := ins_len frm (x.right.rightP frm []) ⟨1, [123] ++ x.a ++ [125], [], x.right.atom, [], [], [], 0, 0, 0⟩
                  omega
                · have := ins_len frm [] ⟨3, [123] ++ x.a ++ [125], [], [123] ++ x.b ++ [125], x.role, [], [], 0, 0, 0⟩; omega
end Go.Vs

/-
  Splitting at a byte; what atoms, roles and pieces are valid.
-/
namespace Go.Vs
open Go Go.Sx
/-- the parts of a string between the c's -/
def splitS (c : UInt8) : Str → List Str
  | [] => [[]]
  | b :: s => if b = c then [] :: splitS c s else match splitS c s with
    | h :: t => (b :: h) :: t
    | [] => [[b]]
def cntS (c : UInt8) (s : Str) : Nat := s.countP (· == c)
theorem splitS_ne (c : UInt8) : ∀ s, splitS c s ≠ []
  | [] => by simp [splitS]
  | b :: s => by
    simp only [splitS]
    split
    · simp
    · split <;> simp
theorem splitS_len (c : UInt8) : ∀ s, (splitS c s).length = cntS c s + 1
  | [] => by simp [splitS, cntS]
  | b :: s => by
    have ih := splitS_len c s
    simp only [splitS]
    by_cases h : b = c
    · simp only [h, if_true, List.length_cons, ih, cntS, List.countP_cons, beq_self_eq_true]
    · simp only [h, if_false]
      cases hs : splitS c s with
      | nil => exact absurd hs (splitS_ne c s)
      | cons x t =>
        rw [hs] at ih
        simp only [List.length_cons] at ih ⊢
        simp only [cntS, List.countP_cons, beq_iff_eq, h, if_false, Nat.add_zero] at ih ⊢
        exact ih
theorem splitS_none {c : UInt8} : ∀ {s : Str}, ixS c s = none → splitS c s = [s]
  | [], _ => rfl
  | b :: s, h => by
    simp only [ixS] at h
    split at h
    · cases h
    · rename_i hb
      have hs : ixS c s = none := by simpa using h
      simp only [splitS, hb, if_false, splitS_none hs]
theorem splitS_some {c : UInt8} : ∀ {s : Str} {k : Nat}, ixS c s = some k → splitS c s = s.take k :: splitS c (s.drop (k + 1))
  | [], k, h => by simp [ixS] at h
  | b :: s, k, h => by
    simp only [ixS] at h
    split at h
    · rename_i hb
      simp only [Option.some.injEq] at h
      subst h
      simp [splitS, hb]
    · rename_i hb
      cases hx : ixS c s with
      | none => rw [hx] at h; simp at h
      | some j =>
        rw [hx] at h
        simp only [Option.map_some, Option.some.injEq] at h
        subst h
        simp only [splitS, hb, if_false, splitS_some hx, List.take_succ_cons, List.drop_succ_cons]
theorem cntS_none {c : UInt8} {s : Str} (h : ixS c s = none) : cntS c s = 0 := by
  have := splitS_len c s
  rw [splitS_none h] at this
  simpa using this.symm
theorem cntS_some {c : UInt8} {s : Str} {k : Nat} (h : ixS c s = some k) : cntS c s = cntS c (s.drop (k + 1)) + 1 := by
  have h1 := splitS_len c s
  rw [splitS_some h] at h1
  simp only [List.length_cons, splitS_len] at h1
  omega
theorem cntS_le (c : UInt8) (s : Str) : cntS c s ≤ s.length := List.countP_le_length

/-- is it a valid atom? -/
def atomS (s : Str) : Bool :=
  if s = [42] ∨ s = [33] then true
  else if 2 ≤ s.length ∧ s[0]? = some 123 ∧ s[s.length - 1]? = some 125 then personS ((s.drop 1).take (s.length - 1 - 1))
  else if 3 ≤ s.length ∧ s[0]? = some 60 ∧ s[s.length - 1]? = some 62 then true
  else personS s
/-- is it a valid role? -/
def roleS (s : Str) : Bool := decide ((splitS 46 s).length ≤ 4) && !((splitS 46 s).any fun r => !personS r)
def fldS (used : Bool) (s : Str) (q : Str → Bool) : Bool := (used && q s) || (!used && (s == []))
def Pc.valid (p : Pc) : Bool :=
  if p.kind < 1 ∨ 9 < p.kind ∨ p.frm < -1 ∨ 1024 ≤ p.frm then false
  else if (nus p.kind).numbers = true ∧ (p.lo < -1099511627776 ∨ p.hi < p.lo ∨ 1099511627776 < p.hi) then false
  else if (nus p.kind).numbers = false ∧ (p.lo ≠ 0 ∨ p.hi ≠ 0) then false
  else ((((fldS (nus p.kind).a p.a atomS && fldS (nus p.kind).b p.b atomS) && fldS (nus p.kind).c p.c atomS) && fldS (nus p.kind).r p.r (if (nus p.kind).numbers then personS else roleS)) && fldS (nus p.kind).s p.s roleS) && fldS (nus p.kind).t p.t roleS
/-- short enough for all that is done to it -/
structure Pc.sm (p : Pc) : Prop where
  a : p.a.length ≤ 17592186044414
  b : p.b.length ≤ 17592186044414
  c : p.c.length ≤ 17592186044414
  r : p.r.length ≤ 17592186044414
  s : p.s.length ≤ 17592186044414
  t : p.t.length ≤ 17592186044414
def Pc.smB (p : Pc) : Bool := Nat.ble p.a.length 17592186044414 && (Nat.ble p.b.length 17592186044414 && (Nat.ble p.c.length 17592186044414 && (Nat.ble p.r.length 17592186044414 && (Nat.ble p.s.length 17592186044414 && Nat.ble p.t.length 17592186044414))))
theorem Pc.sm_all {l : List Pc} (h : l.all Pc.smB = true) : ∀ p ∈ l, p.sm := fun p hp => by
  have := List.all_eq_true.1 h p hp
  simp only [Pc.smB, Bool.and_eq_true, Nat.ble_eq] at this
  exact ⟨this.1, this.2.1, this.2.2.1, this.2.2.2.1, this.2.2.2.2.1, this.2.2.2.2.2⟩
def checkP (l : List Pc) : Int := if 16384 < l.length then 2 else if l.all Pc.valid then 0 else 1
end Go.Vs

/-
  The small logic: lists of blocks in another order, block by block; facts on rows of numbers.
-/
namespace Go.Sx
open Go
section
variable {H r r' d t : Hp} {b : Nat × Obj} {O : Hp}
theorem pf_nil : H.Perm ([] ++ H) := .refl _
theorem pf_here : (b :: r).Perm ([b] ++ r) := .refl _
theorem pf_hereO : (O ++ r).Perm (O ++ r) := .refl _
theorem pf_cons (h : H.Perm (t ++ r)) : (b :: H).Perm (t ++ (b :: r)) := (h.cons b).trans List.perm_middle.symm
theorem pf_app (h : H.Perm (t ++ r)) : (O ++ H).Perm (t ++ (O ++ r)) := (List.Perm.append_left O h).trans (by
  rw [← List.append_assoc, ← List.append_assoc]
  exact List.Perm.append_right r List.perm_append_comm)
theorem pf_takeB (h1 : H.Perm ([b] ++ r)) (h2 : r.Perm (d ++ r')) : H.Perm ((b :: d) ++ r') := h1.trans (h2.cons b)
theorem pf_takeO (h1 : H.Perm (O ++ r)) (h2 : r.Perm (d ++ r')) : H.Perm ((O ++ d) ++ r') := by
  rw [List.append_assoc]
  exact h1.trans (List.Perm.append_left O h2)
theorem pf_end : H.Perm (H ++ []) := by rw [List.append_nil]
end
theorem strC_map : ∀ xs : List (List UInt8), xs.flatMap strC = xs.map str
  | [] => rfl
  | x :: xs => by simp only [List.flatMap_cons, strC_map xs, List.map_cons]; rfl
def intC (n : Int) : List Value := [.int .i64 n]
theorem intC_len (n : Int) : (intC n).length = 1 := rfl
section
variable {P : Program} {N : Nat} {v0 : Vw} {H0 : Hp} {R : Exit → Act → World → Prop} {K : List Kt} {fr : Fr} {H : Hp} {Γ : List Fct}
/-- a block of cells that lasts is a row -/
theorem ok_giveR {k : Act → World → Prop} {b : Nat} {cs : List Value} {T : TypeId} {fz : Nat × Nat} {F : Hp} (xs : List Value) (hH : H.Perm ([(b, .cells cs.toArray T fz)] ++ F)) (hx : cs = xs) (h : Ok N v0 H0 k fr F (rowF (some ⟨b, 0, none⟩) xs :: Γ)) : Ok N v0 H0 k fr H Γ :=
  ok_give (rowF (some ⟨b, 0, none⟩) xs) hH (fun v h1 h2 _ => .inr ⟨b, 0, cs.toArray, T, fz, rfl, h1, h2, fun j x hj => by rw [Nat.zero_add, hx]; simpa using hj⟩) h
theorem ok_fact {k : Act → World → Prop} (f : Fct) (hf : ∀ v, v.sat H → holds Γ v → f.p v) (h : Ok N v0 H0 k fr H (f :: Γ)) : Ok N v0 H0 k fr H Γ :=
  ok_facts (Γ' := f :: Γ) (fun v h1 h2 => ⟨hf v h1 h2, h2⟩) h
theorem satNil {v : Vw} (h : v.sat H) : v.sat [] := ⟨(fun _ h => by cases h), (by simp), h.lt⟩

variable {ops : Array Oper} {l : List Oper} {d : Nat} {ty : TypeId} {ps : String} {af : Array Edge}
theorem yld_min {x y : Operand} {t t' : TypeId} {m n : Int} (hx : Fr.ev fr x = some (.int .i64 m)) (hy : Fr.ev fr y = some (.int .i64 n)) :
    Yld P N fr H Γ (.call ⟨.builtin .min, #[x, y], #[t, t']⟩) ty (.int .i64 (if n < m then n else m)) :=
  fun a v h1 h2 _ _ _ _ => by simp [execOp, resolve, invoke, builtin, Builtin.min_, Builtin.min2, h1.ev hx, h1.ev hy]
theorem yld_max {x y : Operand} {t t' : TypeId} {m n : Int} (hx : Fr.ev fr x = some (.int .i64 m)) (hy : Fr.ev fr y = some (.int .i64 n)) :
    Yld P N fr H Γ (.call ⟨.builtin .max, #[x, y], #[t, t']⟩) ty (.int .i64 (if m < n then n else m)) :=
  fun a v h1 h2 _ _ _ _ => by simp [execOp, resolve, invoke, builtin, Builtin.max_, Builtin.max2, h1.ev hx, h1.ev hy]
theorem yld_quo {t t' : TypeId} {x y : Operand} {m n : Int} (hx : Fr.ev fr x = some (.int .i64 m)) (hy : Fr.ev fr y = some (.int .i64 n)) (hn : n ≠ 0) (hw : IntKind.wrap .i64 (m.tdiv n) = m.tdiv n) :
    Yld P N fr H Γ (.binOp .quo t x y t') ty (.int .i64 (m.tdiv n)) :=
  fun a v h1 _ _ _ _ _ => by simp [execOp, h1.ev hx, h1.ev hy, eqGuard, binOp, Op.intDiv, hn, hw]
theorem madeOne (z : Value) (n : Nat) : madeCells #[z] (n * 1) = (List.replicate n z).toArray := by
  unfold madeCells
  apply Array.ext
  · simp
  · intro i h1 h2
    simp at h1 h2 ⊢
    have : i % 1 = 0 := Nat.mod_one i
    simp [this]
/-- a new row of zeros, each of one cell -/
theorem ops_make1 {t e : TypeId} {x y : Operand} {n by' : Nat} {z : Value} (ht : P.underlying t = some (.slice e)) (hi : (P.info? e).map (fun i => (i.zero, i.size, i.bytes)) = some (some z, 1, by')) (hz : z.cells = #[z]) (hx : Fr.ev fr x = some (.int .i64 (n : Int))) (hy : Fr.ev fr y = some (.int .i64 (n : Int)))
    (hb : by' * n ≤ 281474976710656) (h63 : n ≤ 9223372036854775807) (hN : Nat.blt d N = true)
    (hk : ∀ b, Ops P R N v0 H0 ops l K ((d, .slice (some ⟨b, 0, none⟩) n n) :: fr) ((b, .cells (List.replicate n z).toArray e (0, 0)) :: H) Γ) : Ops P R N v0 H0 ops (⟨some d, .makeSlice t x y, ty, ps, af, none⟩ :: l) K fr H Γ := by
  refine ops_new (x := fun b => .slice (some ⟨b, 0, none⟩) n n) hN (fun a v h1 _ _ => ?_) hk
  cases h : P.info? e with
  | none => rw [h] at hi; cases hi
  | some i =>
    rw [h] at hi
    simp only [Option.map_some, Option.some.injEq, Prod.mk.injEq] at hi
    have hb' : (i.bytes : Int) * (n : Int) ≤ 281474976710656 := by
      rw [hi.2.2]
      have h : ((by' * n : Nat) : Int) ≤ 281474976710656 := by omega
      rwa [Int.natCast_mul] at h
    have hr := run_make (P := P) v.w t e i z ht h hi.1 .i64 .i64 (n : Int) (n : Int) (by omega) (Int.le_refl _) hb' (by omega)
    rw [hi.2.1, hz, Int.toNat_natCast, madeOne] at hr
    simp only [execOp, h1.ev hx, h1.ev hy]
    simp [hr]
/-- one cell of a row of one's own is written -/
theorem ops_storeL {t : TypeId} {x y : Operand} {b off : Nat} (i : Nat) {l1 l2 : List Value} {z u : Value} {T : TypeId} (hs : ∀ w, (sizeOf t).run P w = .ok 1 w)
    (hx : Fr.ev fr x = some (.pointer (some ⟨b, off, none⟩))) (hy : Fr.ev fr y = some u) (hi : H[i]? = some (b, .cells (l1 ++ z :: l2).toArray T (0, 0))) (ho : off = l1.length) (hu : u.cells = #[u]) (h1c : u.oneCell' = true)
    (hk : Ops P R N v0 H0 ops l K fr (H.set i (b, .cells (l1 ++ u :: l2).toArray T (0, 0))) Γ) :
    Ops P R N v0 H0 ops (⟨none, .store t x y, ty, ps, af, none⟩ :: l) K fr H Γ := by
  subst ho
  refine ops_store i hs hx hy hi (by rw [hu]; rfl) (by simp) (by rw [hu]; simpa using h1c) ?_
  have e : (((l1 ++ z :: l2).toArray.toList.take l1.length ++ u.cells.toList ++ (l1 ++ z :: l2).toArray.toList.drop (l1.length + 1)).toArray) = (l1 ++ u :: l2).toArray := by
    rw [hu]
    have e2 : (l1 ++ z :: l2).drop (l1.length + 1) = l2 := by
      rw [← List.drop_drop]; simp
    simp [e2]
  rw [e]
  exact hk
theorem sad_zero {b cap n : Nat} : sad (some ⟨b, 0, none⟩) cap 0 n = some ⟨b, 0, none⟩ := by unfold sad; split <;> simp [addr_add]
end
theorem sub_cells {cs us ws : List Value} {k : Nat} (off : Nat) (h : ∀ j y, us[j]? = some y → cs[k + j]? = some y) (hw : ∀ (j : Nat) y, ws[j]? = some y → us[off + j]? = some y) : ∀ j y, ws[j]? = some y → cs[k + off + j]? = some y := fun j y hj => by
  rw [Nat.add_assoc]; exact h _ _ (hw j y hj)
end Go.Sx

/-
  The pieces and the facts of a goal.
-/
namespace Go.Vs
open Go Go.Sx
def subp (a c : Str) : Pc := ⟨1, a, [], c, [], [], [], 0, 0, 0⟩
def ments (frm : Int) : List Str → List Pc → List Pc
  | [], l => l
  | a :: r, l => ments frm r (ins frm l (subp a [42]))
theorem ments_len (frm : Int) : ∀ (r : List Str) (l : List Pc), (ments frm r l).length ≤ l.length + r.length
  | [], l => by simp [ments]
  | a :: r, l => by
    have h1 := ments_len frm r (ins frm l (subp a [42]))
    have h2 := ins_len frm l (subp a [42])
    simp only [ments, List.length_cons]
    omega
theorem ments_append (frm : Int) : ∀ (xs ys : List Str) (l : List Pc), ments frm (xs ++ ys) l = ments frm ys (ments frm xs l)
  | [], _, _ => rfl
  | x :: xs, ys, l => by simp only [List.cons_append, ments]; exact ments_append frm xs ys _
theorem ments_step (frm : Int) {xs : List Str} {a : Str} {i : Nat} (hp : xs[i]? = some a) (l : List Pc) : ments frm (xs.take (i + 1)) l = ins frm (ments frm (xs.take i) l) (subp a [42]) := by
  rw [List.take_add_one, hp, Option.toList_some, ments_append]; rfl
def indS (s : Str) : Str := [123] ++ s ++ [125]
def Ax.disj (x : Ax) : Str := [60] ++ x.left.operandN ++ [32, 97, 110, 100, 32] ++ x.right.operandN ++ [62]
def Ax.doms (x : Ax) : Str := [60, 115, 111, 109, 101, 32] ++ x.role ++ [32, 101, 118, 101, 114, 121, 116, 104, 105, 110, 103, 62]
/-- the pieces of a goal, its facts, and the error -/
def Ax.goalP (x : Ax) : List Pc × List Fc × Int :=
  if x.check ≠ 0 then ([], [], x.check)
  else if x.kind = 1 then (x.right.leftP (-1) (x.left.rightP (-1) (ments (-1) [x.left.atom, x.right.atom] [])), [⟨1, x.left.atom, x.right.atom, [], 0, 0⟩], 0)
  else if x.kind = 2 then (x.left.leftP (-1) (x.right.rightP (-1) (x.right.leftP (-1) (x.left.rightP (-1) (ments (-1) [x.left.atom, x.right.atom] [])))), [⟨1, x.left.atom, x.right.atom, [], 0, 0⟩, ⟨1, x.right.atom, x.left.atom, [], 0, 0⟩], 0)
  else if x.kind = 3 then (x.right.rightP (-1) (ins (-1) (x.left.rightP (-1) (ins (-1) (ments (-1) [x.disj, [33]] []) (subp x.disj x.left.atom))) (subp x.disj x.right.atom)), [⟨1, x.disj, [33], [], 0, 0⟩], 0)
  else if x.kind = 4 then (x.right.leftP (-1) (ins (-1) (ments (-1) [x.doms, x.right.atom] []) ⟨3, x.doms, [], [42], x.role, [], [], 0, 0, 0⟩), [⟨1, x.doms, x.right.atom, [], 0, 0⟩], 0)
  else if x.kind = 8 then (x.right.leftP (-1) (ments (-1) [indS x.a, x.right.atom] []), [⟨1, indS x.a, x.right.atom, [], 0, 0⟩], 0)
  else if x.kind = 9 then (ments (-1) [indS x.a, indS x.b] [], [⟨2, indS x.a, indS x.b, x.role, 0, 0⟩], 0)
  else ([], [], 22)
theorem Con.operandN_len {c : Con} (hok : c.ok) : c.operandN.length ≤ 6402 := by
  have := Con.textN_len hok
  unfold operandN
  split <;> simp <;> omega
end Go.Vs

/-
  Contracts of the library, laid by the kit: chosen ones.
-/
namespace Go.Proofs
open Go.Shelf
def Tryz.lays156_ren : Go.Shelf.Ren := ⟨fun | 156 => 143 | 165 => 167 | 166 => 168 | 169 => 169 | 240 => 182 | 241 => 183 | 276 => 193 | 277 => 194 | n => n, fun | 31 => 39 | 9 => 9 | 3 => 3 | 4 => 4 | 0 => 0 | 20 => 20 | 72 => 186 | 76 => 190 | 70 => 184 | 37 => 167 | 75 => 189 | 127 => 199 | 164 => 209 | 5 => 5 | 80 => 192 | n => n, fun | n => n⟩
theorem Tryz.lays156 : Go.Proofs.Lays.n156 Tryz.prog Tryz.lays156_ren := {
 mixed := by kernel_rfl
 f156 := Tryz.func143.trans (congrArg some (by kernel_rfl))
 f165 := Tryz.func167.trans (congrArg some (by kernel_rfl))
 f166 := Tryz.func168.trans (congrArg some (by kernel_rfl))
 f169 := Tryz.func169.trans (congrArg some (by kernel_rfl))
 f240 := Tryz.func182.trans (congrArg some (by kernel_rfl))
 f241 := Tryz.func183.trans (congrArg some (by kernel_rfl))
 f276 := Tryz.func193.trans (congrArg some (by kernel_rfl))
 f277 := Tryz.func194.trans (congrArg some (by kernel_rfl))
 t0 := Tryz.underlying0
 a0 := Tryz.isAgg0
 z0 := Tryz.sizeOf0
 v0 := Tryz.zeroValue0
 t3 := Tryz.underlying3
 a3 := Tryz.isAgg3
 z3 := Tryz.sizeOf3
 v3 := Tryz.zeroValue3
 t4 := Tryz.underlying4
 a4 := Tryz.isAgg4
 z4 := Tryz.sizeOf4
 v4 := Tryz.zeroValue4
 t9 := Tryz.underlying9
 a9 := Tryz.isAgg9
 z9 := Tryz.sizeOf9
 v9 := Tryz.zeroValue9
 t20 := Tryz.underlying20
 a20 := Tryz.isAgg20
 z20 := Tryz.sizeOf20
 v20 := Tryz.zeroValue20
 t31 := Tryz.underlying39
 a31 := Tryz.isAgg39
 z31 := Tryz.sizeOf39
 v31 := Tryz.zeroValue39
 t37 := Tryz.underlying167
 a37 := Tryz.isAgg167
 z37 := Tryz.sizeOf167
 v37 := Tryz.zeroValue167
 t70 := Tryz.underlying184
 a70 := Tryz.isAgg184
 z70 := Tryz.sizeOf184
 v70 := Tryz.zeroValue184
 t72 := Tryz.underlying186
 a72 := Tryz.isAgg186
 z72 := Tryz.sizeOf186
 v72 := Tryz.zeroValue186
 t75 := Tryz.underlying189
 a75 := Tryz.isAgg189
 z75 := Tryz.sizeOf189
 v75 := Tryz.zeroValue189
 t76 := Tryz.underlying190
 a76 := Tryz.isAgg190
 z76 := Tryz.sizeOf190
 v76 := Tryz.zeroValue190
 t127 := Tryz.underlying199
 a127 := Tryz.isAgg199
 z127 := Tryz.sizeOf199
 v127 := Tryz.zeroValue199
 t164 := Tryz.underlying209
 a164 := Tryz.isAgg209
 z164 := Tryz.sizeOf209
 v164 := Tryz.zeroValue209 }
theorem Tryz.Builder_Extra_156 : Builder.Extra Tryz.prog Tryz.lays156_ren := {
  sizeBuilder := by kernel_rfl
  liesBuilder := by kernel_rfl
  t5 := Tryz.underlying5
  a5 := Tryz.isAgg5
  z5 := Tryz.sizeOf5
  v5 := Tryz.zeroValue5
  infoByte := by kernel_rfl
  cellsByte := by kernel_rfl
  sizeByte := by kernel_rfl
  neB5 := by decide }
open Go.RowKit in
theorem Tryz.strings_Join_none (a : Option Addr) (c : Nat) (sep : ByteArray) (w : World) :
    Calls Tryz.prog 143 #[.slice a 0 c, .string sep] w fun e w' => e = .returned (.string ⟨#[]⟩) ∧ w' = w := Any.strings_Join_none Tryz.lays156 Tryz.Builder_Extra_156 a c sep w
open Go.RowKit in
theorem Tryz.strings_Join (bk o c : Nat) (xs : List ByteArray) (sep : ByteArray) (w : World) (hcells : ∀ (j : Nat) x, xs[j]? = some x → w.cell? ⟨bk, o + j, none⟩ = some (.string x)) (hbk : bk < w.heap.size) (hN : xs.length ≤ 140737488355328) (hcap : xs.length ≤ c) (hlen : (Lib.join (xs.map (·.data.toList)) sep.data.toList).length ≤ 140737488355328) :
    Calls Tryz.prog 143 #[.slice (some ⟨bk, o, none⟩) xs.length c, .string sep] w fun e w' => e = .returned (.string ⟨(Lib.join (xs.map (·.data.toList)) sep.data.toList).toArray⟩) ∧ Below w.heap.size w w' := Any.strings_Join Tryz.lays156 Tryz.Builder_Extra_156 bk o c xs sep w hcells hbk hN hcap hlen
def Tryz.lays122_ren : Go.Shelf.Ren := ⟨fun | 122 => 115 | 215 => 146 | n => n, fun | 3 => 3 | 4 => 4 | n => n, fun | n => n⟩
theorem Tryz.lays122 : Go.Proofs.Lays.n122 Tryz.prog Tryz.lays122_ren := {
  mixed := by kernel_rfl
  f122 := Tryz.func115.trans (congrArg some (by kernel_rfl))
  f215 := Tryz.func146.trans (congrArg some (by kernel_rfl))
  t3 := Tryz.underlying3
  a3 := Tryz.isAgg3
  z3 := Tryz.sizeOf3
  v3 := Tryz.zeroValue3
  t4 := Tryz.underlying4
  a4 := Tryz.isAgg4
  z4 := Tryz.sizeOf4
  v4 := Tryz.zeroValue4 }
open Go.RowKit in
theorem Tryz.cmp_Compare_int (x y : Int) (w : World) :
    Calls Tryz.prog 115 #[.int .i64 x, .int .i64 y] w fun e w' => e = .returned (.int .i64 (Lib.compareInt x y)) ∧ w' = w := Any.cmp_Compare_int Tryz.lays122 x y w
def Tryz.laysM171_ren : Go.Shelf.Ren := ⟨fun | 171 => 145 | 243 => 170 | 246 => 184 | 283 => 195 | 284 => 196 | 285 => 197 | 286 => 198 | 129 => 161 | 317 => 202 | 318 => 203 | 319 => 204 | 320 => 205 | 337 => 206 | 338 => 207 | n => n, fun | 3 => 3 | 9 => 9 | 2 => 2 | 4 => 4 | 171 => 212 | 0 => 0 | 53 => 181 | 37 => 167 | 5 => 5 | 173 => 214 | 212 => 219 | 51 => 179 | 20 => 20 | 213 => 220 | 46 => 153 | 232 => 225 | 233 => 226 | n => n, fun | 17 => 4 | 18 => 7 | 19 => 8 | n => n⟩
theorem Tryz.laysM171 : Go.Proofs.LaysM.n171 Tryz.prog Tryz.laysM171_ren := {
 mixed := by kernel_rfl
 f129 := Tryz.func161.trans (congrArg some (by kernel_rfl))
 f171 := Tryz.func145.trans (congrArg some (by kernel_rfl))
 f243 := Tryz.func170.trans (congrArg some (by kernel_rfl))
 f246 := Tryz.func184.trans (congrArg some (by kernel_rfl))
 f283 := Tryz.func195.trans (congrArg some (by kernel_rfl))
 f284 := Tryz.func196.trans (congrArg some (by kernel_rfl))
 f285 := Tryz.func197.trans (congrArg some (by kernel_rfl))
 f286 := Tryz.func198.trans (congrArg some (by kernel_rfl))
 f317 := Tryz.func202.trans (congrArg some (by kernel_rfl))
 f318 := Tryz.func203.trans (congrArg some (by kernel_rfl))
 f319 := Tryz.func204.trans (congrArg some (by kernel_rfl))
 f320 := Tryz.func205.trans (congrArg some (by kernel_rfl))
 f337 := Tryz.func206.trans (congrArg some (by kernel_rfl))
 f338 := Tryz.func207.trans (congrArg some (by kernel_rfl))
 t0 := Tryz.underlying0
 a0 := Tryz.isAgg0
 z0 := Tryz.sizeOf0
 v0 := Tryz.zeroValue0
 t2 := Tryz.underlying2
 a2 := Tryz.isAgg2
 z2 := Tryz.sizeOf2
 v2 := Tryz.zeroValue2
 t3 := Tryz.underlying3
 a3 := Tryz.isAgg3
 z3 := Tryz.sizeOf3
 v3 := Tryz.zeroValue3
 t4 := Tryz.underlying4
 a4 := Tryz.isAgg4
 z4 := Tryz.sizeOf4
 v4 := Tryz.zeroValue4
 t5 := Tryz.underlying5
 a5 := Tryz.isAgg5
 z5 := Tryz.sizeOf5
 v5 := Tryz.zeroValue5
 t9 := Tryz.underlying9
 a9 := Tryz.isAgg9
 z9 := Tryz.sizeOf9
 v9 := Tryz.zeroValue9
 t20 := Tryz.underlying20
 a20 := Tryz.isAgg20
 z20 := Tryz.sizeOf20
 v20 := Tryz.zeroValue20
 t37 := Tryz.underlying167
 a37 := Tryz.isAgg167
 z37 := Tryz.sizeOf167
 v37 := Tryz.zeroValue167
 t46 := Tryz.underlying153
 a46 := Tryz.isAgg153
 z46 := Tryz.sizeOf153
 v46 := Tryz.zeroValue153
 t51 := Tryz.underlying179
 a51 := Tryz.isAgg179
 z51 := Tryz.sizeOf179
 v51 := Tryz.zeroValue179
 t53 := Tryz.underlying181
 a53 := Tryz.isAgg181
 z53 := Tryz.sizeOf181
 v53 := Tryz.zeroValue181
 t171 := Tryz.underlying212
 a171 := Tryz.isAgg212
 z171 := Tryz.sizeOf212
 v171 := Tryz.zeroValue212
 t173 := Tryz.underlying214
 a173 := Tryz.isAgg214
 z173 := Tryz.sizeOf214
 v173 := Tryz.zeroValue214
 t212 := Tryz.underlying219
 a212 := Tryz.isAgg219
 z212 := Tryz.sizeOf219
 v212 := Tryz.zeroValue219
 t213 := Tryz.underlying220
 a213 := Tryz.isAgg220
 z213 := Tryz.sizeOf220
 t232 := Tryz.underlying225
 a232 := Tryz.isAgg225
 z232 := Tryz.sizeOf225
 v232 := Tryz.zeroValue225
 t233 := Tryz.underlying226
 a233 := Tryz.isAgg226
 z233 := Tryz.sizeOf226
 v233 := Tryz.zeroValue226
 g17 := by kernel_rfl
 g18 := by kernel_rfl
 g19 := by kernel_rfl
 i0 := by kernel_rfl
 i2 := by kernel_rfl
 i3 := by kernel_rfl
 i4 := by kernel_rfl
 i5 := by kernel_rfl
 i9 := by kernel_rfl
 i20 := by kernel_rfl
 i37 := by kernel_rfl
 i46 := by kernel_rfl
 i51 := by kernel_rfl
 i53 := by kernel_rfl
 i171 := by kernel_rfl
 i173 := by kernel_rfl
 i212 := by kernel_rfl
 i232 := by kernel_rfl
 i233 := by kernel_rfl
 m17 := by kernel_rfl
 m18 := by kernel_rfl
 m19 := by kernel_rfl }
open Go.RowKit Go.Sort Go.Lib in
theorem Tryz.strconv_Itoa (n : Int) (h0 : -9223372036854775808 ≤ n) (h1 : n ≤ 9223372036854775807) (w : World) (htab : Lib.TabIs Tryz.prog w "internal/strconv.uint64pow10" .u64 Lib.pow10Tab) :
    Calls Tryz.prog 145 #[.int .i64 n] w fun e w' => e = .returned (.string ⟨(Lib.itoa n).toArray⟩) ∧ ∃ k os, w' = grow (w.drewN k) os := Any.strconv_Itoa Tryz.laysM171 n h0 h1 w htab
def Tryz.lays219_ren : Go.Shelf.Ren := ⟨fun | 219 => 172 | 217 => 185 | 225 => 186 | 224 => 187 | 267 => 188 | 266 => 199 | 314 => 200 | n => n, fun | 9 => 9 | 3 => 3 | 4 => 4 | 5 => 5 | 46 => 153 | 146 => 216 | 51 => 179 | n => n, fun | 1 => 3 | n => n⟩
theorem Tryz.lays219 : Go.Proofs.Lays.n219 Tryz.prog Tryz.lays219_ren := {
  mixed := by kernel_rfl
  f217 := Tryz.func185.trans (congrArg some (by kernel_rfl))
  f219 := Tryz.func172.trans (congrArg some (by kernel_rfl))
  f224 := Tryz.func187.trans (congrArg some (by kernel_rfl))
  f225 := Tryz.func186.trans (congrArg some (by kernel_rfl))
  f266 := Tryz.func199.trans (congrArg some (by kernel_rfl))
  f267 := Tryz.func188.trans (congrArg some (by kernel_rfl))
  f314 := Tryz.func200.trans (congrArg some (by kernel_rfl))
  t3 := Tryz.underlying3
  a3 := Tryz.isAgg3
  z3 := Tryz.sizeOf3
  v3 := Tryz.zeroValue3
  t4 := Tryz.underlying4
  a4 := Tryz.isAgg4
  z4 := Tryz.sizeOf4
  v4 := Tryz.zeroValue4
  t5 := Tryz.underlying5
  a5 := Tryz.isAgg5
  z5 := Tryz.sizeOf5
  v5 := Tryz.zeroValue5
  t9 := Tryz.underlying9
  a9 := Tryz.isAgg9
  z9 := Tryz.sizeOf9
  v9 := Tryz.zeroValue9
  t46 := Tryz.underlying153
  a46 := Tryz.isAgg153
  z46 := Tryz.sizeOf153
  v46 := Tryz.zeroValue153
  t51 := Tryz.underlying179
  a51 := Tryz.isAgg179
  z51 := Tryz.sizeOf179
  v51 := Tryz.zeroValue179
  t146 := Tryz.underlying216
  a146 := Tryz.isAgg216
  z146 := Tryz.sizeOf216
  v146 := Tryz.zeroValue216
  g1 := by kernel_rfl }
open Go.RowKit Go.Lib in
theorem Tryz.stringslite_Index_one (s : ByteArray) (c : UInt8) (w : World) :
    Calls Tryz.prog 172 #[.string s, .string ⟨#[c]⟩] w fun e w' => e = .returned (.int .i64 (Lib.indexByte s.data.toList c)) ∧ w' = w := Any.stringslite_Index_one Tryz.lays219 s c w
def Tryz.lays143_ren : Go.Shelf.Ren := ⟨fun | 143 => 181 | 219 => 172 | 217 => 185 | 225 => 186 | 224 => 187 | 267 => 188 | 266 => 199 | 314 => 200 | n => n, fun | 9 => 9 | 3 => 3 | 4 => 4 | 5 => 5 | 46 => 153 | 146 => 216 | 51 => 179 | n => n, fun | 1 => 3 | n => n⟩
theorem Tryz.lays143 : Go.Proofs.Lays.n143 Tryz.prog Tryz.lays143_ren := {
  mixed := by kernel_rfl
  f143 := Tryz.func181.trans (congrArg some (by kernel_rfl))
  f217 := Tryz.func185.trans (congrArg some (by kernel_rfl))
  f219 := Tryz.func172.trans (congrArg some (by kernel_rfl))
  f224 := Tryz.func187.trans (congrArg some (by kernel_rfl))
  f225 := Tryz.func186.trans (congrArg some (by kernel_rfl))
  f266 := Tryz.func199.trans (congrArg some (by kernel_rfl))
  f267 := Tryz.func188.trans (congrArg some (by kernel_rfl))
  f314 := Tryz.func200.trans (congrArg some (by kernel_rfl))
  t3 := Tryz.underlying3
  a3 := Tryz.isAgg3
  z3 := Tryz.sizeOf3
  v3 := Tryz.zeroValue3
  t4 := Tryz.underlying4
  a4 := Tryz.isAgg4
  z4 := Tryz.sizeOf4
  v4 := Tryz.zeroValue4
  t5 := Tryz.underlying5
  a5 := Tryz.isAgg5
  z5 := Tryz.sizeOf5
  v5 := Tryz.zeroValue5
  t9 := Tryz.underlying9
  a9 := Tryz.isAgg9
  z9 := Tryz.sizeOf9
  v9 := Tryz.zeroValue9
  t46 := Tryz.underlying153
  a46 := Tryz.isAgg153
  z46 := Tryz.sizeOf153
  v46 := Tryz.zeroValue153
  t51 := Tryz.underlying179
  a51 := Tryz.isAgg179
  z51 := Tryz.sizeOf179
  v51 := Tryz.zeroValue179
  t146 := Tryz.underlying216
  a146 := Tryz.isAgg216
  z146 := Tryz.sizeOf216
  v146 := Tryz.zeroValue216
  g1 := by kernel_rfl }
open Go.RowKit Go.Lib in
theorem Tryz.strings_Index_one (s : ByteArray) (c : UInt8) (w : World) :
    Calls Tryz.prog 181 #[.string s, .string ⟨#[c]⟩] w fun e w' => e = .returned (.int .i64 (Lib.indexByte s.data.toList c)) ∧ w' = w := Any.strings_Index_one Tryz.lays143 s c w
def Tryz.lays138_ren : Go.Shelf.Ren := ⟨fun | 138 => 180 | 195 => 190 | 218 => 192 | 143 => 181 | 219 => 172 | 217 => 185 | 225 => 186 | 224 => 187 | 267 => 188 | 266 => 199 | 314 => 200 | n => n, fun | 9 => 9 | 3 => 3 | 4 => 4 | 5 => 5 | 0 => 0 | 46 => 153 | 146 => 216 | 51 => 179 | n => n, fun | 1 => 3 | n => n⟩
theorem Tryz.lays138 : Go.Proofs.Lays.n138 Tryz.prog Tryz.lays138_ren := {
 mixed := by kernel_rfl
 f138 := Tryz.func180.trans (congrArg some (by kernel_rfl))
 f143 := Tryz.func181.trans (congrArg some (by kernel_rfl))
 f195 := Tryz.func190.trans (congrArg some (by kernel_rfl))
 f217 := Tryz.func185.trans (congrArg some (by kernel_rfl))
 f218 := Tryz.func192.trans (congrArg some (by kernel_rfl))
 f219 := Tryz.func172.trans (congrArg some (by kernel_rfl))
 f224 := Tryz.func187.trans (congrArg some (by kernel_rfl))
 f225 := Tryz.func186.trans (congrArg some (by kernel_rfl))
 f266 := Tryz.func199.trans (congrArg some (by kernel_rfl))
 f267 := Tryz.func188.trans (congrArg some (by kernel_rfl))
 f314 := Tryz.func200.trans (congrArg some (by kernel_rfl))
 t0 := Tryz.underlying0
 a0 := Tryz.isAgg0
 z0 := Tryz.sizeOf0
 v0 := Tryz.zeroValue0
 t3 := Tryz.underlying3
 a3 := Tryz.isAgg3
 z3 := Tryz.sizeOf3
 v3 := Tryz.zeroValue3
 t4 := Tryz.underlying4
 a4 := Tryz.isAgg4
 z4 := Tryz.sizeOf4
 v4 := Tryz.zeroValue4
 t5 := Tryz.underlying5
 a5 := Tryz.isAgg5
 z5 := Tryz.sizeOf5
 v5 := Tryz.zeroValue5
 t9 := Tryz.underlying9
 a9 := Tryz.isAgg9
 z9 := Tryz.sizeOf9
 v9 := Tryz.zeroValue9
 t46 := Tryz.underlying153
 a46 := Tryz.isAgg153
 z46 := Tryz.sizeOf153
 v46 := Tryz.zeroValue153
 t51 := Tryz.underlying179
 a51 := Tryz.isAgg179
 z51 := Tryz.sizeOf179
 v51 := Tryz.zeroValue179
 t146 := Tryz.underlying216
 a146 := Tryz.isAgg216
 z146 := Tryz.sizeOf216
 v146 := Tryz.zeroValue216
 g1 := by kernel_rfl }
open Go.RowKit Go.Lib in
theorem Tryz.strings_Count_one (s : ByteArray) (c : UInt8) (w : World) :
    Calls Tryz.prog 180 #[.string s, .string ⟨#[c]⟩] w fun e w' => e = .returned (.int .i64 (Lib.countByte s.data.toList c)) ∧ w' = w := Any.strings_Count_one Tryz.lays138 s c w
def Tryz.lays190_ren : Go.Shelf.Ren := ⟨fun | 190 => 68 | 125 => 128 | 258 => 127 | 128 => 160 | 129 => 161 | 302 => 151 | 303 => 152 | 304 => 153 | 305 => 154 | 306 => 155 | 307 => 156 | 308 => 157 | 309 => 158 | 310 => 159 | 333 => 173 | 329 => 174 | 330 => 175 | 334 => 176 | 335 => 177 | 336 => 178 | 344 => 189 | n => n, fun | 31 => 39 | 9 => 9 | 3 => 3 | 46 => 153 | 0 => 0 | 51 => 179 | 53 => 181 | 4 => 4 | 183 => 171 | 182 => 170 | 131 => 176 | 5 => 5 | 218 => 193 | 222 => 121 | 228 => 203 | 229 => 204 | n => n, fun | n => n⟩
theorem Tryz.lays190 : Go.Proofs.Lays.n190 Tryz.prog Tryz.lays190_ren := {
 mixed := by kernel_rfl
 f125 := Tryz.func128.trans (congrArg some (by kernel_rfl))
 f128 := Tryz.func160.trans (congrArg some (by kernel_rfl))
 f129 := Tryz.func161.trans (congrArg some (by kernel_rfl))
 f190 := Tryz.func68.trans (congrArg some (by kernel_rfl))
 f258 := Tryz.func127.trans (congrArg some (by kernel_rfl))
 f302 := Tryz.func151.trans (congrArg some (by kernel_rfl))
 f303 := Tryz.func152.trans (congrArg some (by kernel_rfl))
 f304 := Tryz.func153.trans (congrArg some (by kernel_rfl))
 f305 := Tryz.func154.trans (congrArg some (by kernel_rfl))
 f306 := Tryz.func155.trans (congrArg some (by kernel_rfl))
 f307 := Tryz.func156.trans (congrArg some (by kernel_rfl))
 f308 := Tryz.func157.trans (congrArg some (by kernel_rfl))
 f309 := Tryz.func158.trans (congrArg some (by kernel_rfl))
 f310 := Tryz.func159.trans (congrArg some (by kernel_rfl))
 f329 := Tryz.func174.trans (congrArg some (by kernel_rfl))
 f330 := Tryz.func175.trans (congrArg some (by kernel_rfl))
 f333 := Tryz.func173.trans (congrArg some (by kernel_rfl))
 f334 := Tryz.func176.trans (congrArg some (by kernel_rfl))
 f335 := Tryz.func177.trans (congrArg some (by kernel_rfl))
 f336 := Tryz.func178.trans (congrArg some (by kernel_rfl))
 f344 := Tryz.func189.trans (congrArg some (by kernel_rfl))
 t0 := Tryz.underlying0
 a0 := Tryz.isAgg0
 z0 := Tryz.sizeOf0
 v0 := Tryz.zeroValue0
 t3 := Tryz.underlying3
 a3 := Tryz.isAgg3
 z3 := Tryz.sizeOf3
 v3 := Tryz.zeroValue3
 t4 := Tryz.underlying4
 a4 := Tryz.isAgg4
 z4 := Tryz.sizeOf4
 v4 := Tryz.zeroValue4
 t5 := Tryz.underlying5
 a5 := Tryz.isAgg5
 z5 := Tryz.sizeOf5
 v5 := Tryz.zeroValue5
 t9 := Tryz.underlying9
 a9 := Tryz.isAgg9
 z9 := Tryz.sizeOf9
 v9 := Tryz.zeroValue9
 t31 := Tryz.underlying39
 a31 := Tryz.isAgg39
 z31 := Tryz.sizeOf39
 v31 := Tryz.zeroValue39
 t46 := Tryz.underlying153
 a46 := Tryz.isAgg153
 z46 := Tryz.sizeOf153
 v46 := Tryz.zeroValue153
 t51 := Tryz.underlying179
 a51 := Tryz.isAgg179
 z51 := Tryz.sizeOf179
 v51 := Tryz.zeroValue179
 t53 := Tryz.underlying181
 a53 := Tryz.isAgg181
 z53 := Tryz.sizeOf181
 v53 := Tryz.zeroValue181
 t131 := Tryz.underlying176
 a131 := Tryz.isAgg176
 z131 := Tryz.sizeOf176
 v131 := Tryz.zeroValue176
 t182 := Tryz.underlying170
 a182 := Tryz.isAgg170
 z182 := Tryz.sizeOf170
 v182 := Tryz.zeroValue170
 t183 := Tryz.underlying171
 a183 := Tryz.isAgg171
 z183 := Tryz.sizeOf171
 v183 := Tryz.zeroValue171
 t218 := Tryz.underlying193
 a218 := Tryz.isAgg193
 z218 := Tryz.sizeOf193
 v218 := Tryz.zeroValue193
 t222 := Tryz.underlying121
 a222 := Tryz.isAgg121
 z222 := Tryz.sizeOf121
 v222 := Tryz.zeroValue121
 t228 := Tryz.underlying203
 a228 := Tryz.isAgg203
 z228 := Tryz.sizeOf203
 v228 := Tryz.zeroValue203
 t229 := Tryz.underlying204
 a229 := Tryz.isAgg204
 z229 := Tryz.sizeOf204
 v229 := Tryz.zeroValue204 }
open Go.Sort Go.RowKit in
theorem Tryz.slices_Sort_string (blk off cap : Nat) (ss : List (List UInt8)) (w : World) (hH : Holds encStr w blk off ss.toArray) (hblk : blk < w.heap.size) (hsz : ss.length < 4611686018427387904) :
    Calls Tryz.prog 68 #[.slice (some ⟨blk, off, none⟩) ss.length cap] w fun e w' =>
      e = .returned (.tuple #[]) ∧ ∃ n os, w' = grow (putRow encStr (Sort.ahead w n) blk off (ss.mergeSort fun x y => decide (x ≤ y)).toArray) os := Any.slices_Sort_string Tryz.lays190 blk off cap ss w hH hblk hsz
def Tryz.lays194_ren : Go.Shelf.Ren := ⟨fun | 194 => 69 | n => n, fun | 31 => 39 | 9 => 9 | 3 => 3 | 4 => 4 | 0 => 0 | n => n, fun | n => n⟩
theorem Tryz.lays194 : Go.Proofs.Lays.n194 Tryz.prog Tryz.lays194_ren := {
  mixed := by kernel_rfl
  f194 := Tryz.func69.trans (congrArg some (by kernel_rfl))
  t0 := Tryz.underlying0
  a0 := Tryz.isAgg0
  z0 := Tryz.sizeOf0
  v0 := Tryz.zeroValue0
  t3 := Tryz.underlying3
  a3 := Tryz.isAgg3
  z3 := Tryz.sizeOf3
  v3 := Tryz.zeroValue3
  t4 := Tryz.underlying4
  a4 := Tryz.isAgg4
  z4 := Tryz.sizeOf4
  v4 := Tryz.zeroValue4
  t9 := Tryz.underlying9
  a9 := Tryz.isAgg9
  z9 := Tryz.sizeOf9
  v9 := Tryz.zeroValue9
  t31 := Tryz.underlying39
  a31 := Tryz.isAgg39
  z31 := Tryz.sizeOf39
  v31 := Tryz.zeroValue39 }
open Go.RowKit Go.Lib Go.Sort in
theorem Tryz.slices_Compact_string (blk off cap : Nat) (zs : List (List UInt8)) (w : World) (hH : Holds encStr w blk off zs.toArray) (hsz : zs.length ≤ 9223372036854775807) (hcap : zs.length ≤ cap) :
    Calls Tryz.prog 69 #[.slice (some ⟨blk, off, none⟩) zs.length cap] w fun e w' => e = .returned (.slice (some ⟨blk, off, none⟩) (Lib.compact zs).length cap) ∧ ∃ q, w' = putRow encStr (Sort.ahead w q) blk off (Lib.compact zs ++ List.replicate (zs.length - (Lib.compact zs).length) []).toArray := Any.slices_Compact_string Tryz.lays194 blk off cap zs w hH hsz hcap
open Go.RowKit Go.Lib Go.Sort in
theorem Tryz.slices_Compact_string_empty (a : Option Addr) (cap : Nat) (w : World) :
    Calls Tryz.prog 69 #[.slice a 0 cap] w fun e w' => e = .returned (.slice a 0 cap) ∧ w' = w := Any.slices_Compact_string_empty Tryz.lays194 a cap w
open Go.RowKit Go.Sort in
theorem Tryz.slices_Sort_string_none (p : Option Addr) (cap : Nat) (w : World) :
    Calls Tryz.prog 68 #[.slice p 0 cap] w fun e w' => e = .returned (.tuple #[]) ∧ w' = w := Any.slices_Sort_string_none Tryz.lays190 p cap w
end Go.Proofs

/-
  My own contracts.
-/
namespace Go.Proofs.YtoafjmalfclpoaaGreatDoor
open Go Go.Sx Go.Proofs
set_option linter.unusedVariables false
attribute [local irreducible] Code.wp wpList wpAnyH

open Go.Vs
theorem isLetter_c (c : UInt8) :
  Fn0 Tryz.prog 149 #[.int .u8 (c.toNat : Int)] (.bool (letterS c)) := by
 refine tri_of_body Tryz.func149 rfl rfl Tryz.ntmps149 rfl fun v0 => ?_
 refine run_seq (run_region (ops_val (yld_assign rfl) rfl (ops_nil (fin_next rfl (run_seq (run_region (ops_val (yld_move rfl) rfl ?_)))))))
 refine ops_valB (yld_leq rfl rfl) rfl fun r1 hr1 => ?_
 refine ops_val (yld_move rfl) rfl ?_
 cases r1
 ·
  replace hr1 := of_decide_eq_false hr1
  refine ops_no rfl rfl rfl rfl (ops_no rfl rfl rfl rfl (ops_val (yld_pick_f rfl rfl) rfl ?_))
  refine ops_val (yld_move rfl) rfl (ops_yes rfl rfl (ops_val (yld_move rfl) rfl (ops_yes rfl rfl (ops_valB (yld_leq rfl rfl) rfl fun r2 hr2 => ?_))))
  refine ops_yes rfl rfl (ops_val (yld_move rfl) rfl ?_)
  cases r2
  ·
   replace hr2 := of_decide_eq_false hr2
   refine ops_no rfl rfl rfl rfl (ops_no rfl rfl rfl rfl (ops_yes rfl rfl (ops_val (yld_pick_f rfl rfl) rfl ?_)))
   refine ops_val (yld_pick_f rfl rfl) rfl ?_
   refine ops_val (yld_assign rfl) rfl (ops_nil (fin_next rfl (run_ret ?_)))
   exact ret1 Tryz.results149 () (get_bool rfl (by subst_vars; rw [Bool.eq_iff_iff]; simp [letterS] <;> omega)) (.refl _) (fun _ _ _ => trivial)
  ·
   replace hr2 := of_decide_eq_true hr2
   refine ops_yes rfl rfl (ops_val (yld_move rfl) rfl (ops_yes rfl rfl (ops_valB (yld_leq rfl rfl) rfl fun r3 hr3 => ?_)))
   refine ops_yes rfl rfl (ops_val (yld_pick_t rfl rfl) rfl ?_)
   refine ops_val (yld_pick_f rfl rfl) rfl ?_
   refine ops_val (yld_assign rfl) rfl (ops_nil (fin_next rfl (run_ret ?_)))
   exact ret1 Tryz.results149 () (get_bool rfl (by subst_vars; rw [Bool.eq_iff_iff]; simp [letterS] <;> omega)) (.refl _) (fun _ _ _ => trivial)
 ·
  replace hr1 := of_decide_eq_true hr1
  refine ops_yes rfl rfl (ops_val (yld_move rfl) rfl (ops_yes rfl rfl (ops_valB (yld_leq rfl rfl) rfl fun r4 hr4 => ?_)))
  refine ops_val (yld_pick_t rfl rfl) rfl ?_
  refine ops_val (yld_move rfl) rfl ?_
  cases r4
  ·
   replace hr4 := of_decide_eq_false hr4
   refine ops_yes rfl rfl (ops_val (yld_move rfl) rfl (ops_yes rfl rfl (ops_valB (yld_leq rfl rfl) rfl fun r5 hr5 => ?_)))
   refine ops_yes rfl rfl (ops_val (yld_move rfl) rfl ?_)
   cases r5
   ·
    replace hr5 := of_decide_eq_false hr5
    refine ops_no rfl rfl rfl rfl (ops_no rfl rfl rfl rfl (ops_yes rfl rfl (ops_val (yld_pick_f rfl rfl) rfl ?_)))
    refine ops_val (yld_pick_f rfl rfl) rfl ?_
    refine ops_val (yld_assign rfl) rfl (ops_nil (fin_next rfl (run_ret ?_)))
    exact ret1 Tryz.results149 () (get_bool rfl (by subst_vars; rw [Bool.eq_iff_iff]; simp [letterS] <;> omega)) (.refl _) (fun _ _ _ => trivial)
   ·
    replace hr5 := of_decide_eq_true hr5
    refine ops_yes rfl rfl (ops_val (yld_move rfl) rfl (ops_yes rfl rfl (ops_valB (yld_leq rfl rfl) rfl fun r6 hr6 => ?_)))
    refine ops_yes rfl rfl (ops_val (yld_pick_t rfl rfl) rfl ?_)
    refine ops_val (yld_pick_f rfl rfl) rfl ?_
    refine ops_val (yld_assign rfl) rfl (ops_nil (fin_next rfl (run_ret ?_)))
    exact ret1 Tryz.results149 () (get_bool rfl (by subst_vars; rw [Bool.eq_iff_iff]; simp [letterS] <;> omega)) (.refl _) (fun _ _ _ => trivial)
  ·
   replace hr4 := of_decide_eq_true hr4
   refine ops_no rfl rfl rfl rfl (ops_no rfl rfl rfl rfl (ops_no rfl rfl rfl rfl (ops_no rfl rfl rfl rfl (ops_no rfl rfl rfl rfl (ops_no rfl rfl rfl rfl (ops_val (yld_pick_t rfl rfl) rfl ?_))))))
   refine ops_val (yld_assign rfl) rfl (ops_nil (fin_next rfl (run_ret ?_)))
   exact ret1 Tryz.results149 () (get_bool rfl (by subst_vars; rw [Bool.eq_iff_iff]; simp [letterS] <;> omega)) (.refl _) (fun _ _ _ => trivial)

theorem isTail_c (s : Str) (hs : s.length ≤ 140737488351232) :
  Fn0 Tryz.prog 120 #[str s] (.bool (tailS s)) := by
 refine tri_of_body Tryz.func120 rfl rfl Tryz.ntmps120 rfl fun v0 => ?_
 refine run_seq (run_region (ops_val (yld_assign rfl) rfl (ops_nil (fin_next rfl (run_seq (run_seq (run_region ?_)))))))
 refine ops_val (yld_move rfl) rfl (ops_s2b Tryz.runUnderlying9 Tryz.runUnderlying167 Tryz.runUnderlying5 rfl rfl fun cap b1 hcap => ?_)
 refine ops_val (yld_lenS Tryz.runUnderlying167 rfl) rfl ?_
 refine ops_val (yld_move rfl) rfl (ops_nil (fin_next rfl (run_block (ok_fr [(6, .slice (some ⟨b1, 0, none⟩) s.length cap), (7, .int .i64 (s.length : Int)), (8, .int .i64 ((0 : Nat) : Int))] ⟨rfl, rfl, rfl, trivial⟩ ?_))))
 refine run_loop (ι := {k : Nat // k ≤ s.length ∧ (s.take k).all innerS = true}) (fun i => [(6, .slice (some ⟨b1, 0, none⟩) s.length cap), (7, .int .i64 (s.length : Int)), (8, .int .i64 (i.1 : Int))]) (fun _ => _) (fun _ => _) (fun i => s.length - i.1) ⟨0, by simp⟩ ?_
 rintro ⟨k, hk⟩
 refine ok_fr [(6, .slice (some ⟨b1, 0, none⟩) s.length cap), (7, .int .i64 (s.length : Int)), (8, .int .i64 (k : Int))] ⟨rfl, rfl, rfl, trivial⟩ ?_
 refine run_seq (run_region (ops_valB (yld_lss rfl rfl) rfl fun r1 hr1 => ?_))
 refine ops_nil (fin_next rfl (run_seq ?_))
 cases r1
 ·
  replace hr1 := of_decide_eq_false hr1
  refine run_cond_f rfl (run_exit rfl (fin_next rfl (run_seq (run_region (ops_val (yld_assign rfl) rfl (ops_nil (fin_next rfl ?_)))))))
  refine run_ret ?_
  exact ret1 Tryz.results120 () (get_bool rfl (by rw [tailS, take_all_end innerS s k (by omega) hk.2])) (.refl _) (fun _ _ _ => trivial)
 ·
  replace hr1 := of_decide_eq_true hr1
  have hlt : k < s.length := by omega
  obtain ⟨c, hc⟩ : ∃ c, s[k]? = some c := ⟨_, List.getElem?_eq_getElem hlt⟩
  refine run_cond_t rfl (run_skip (fin_next rfl (run_seq (run_block (run_seq (run_region (ops_val (yld_index Tryz.runUnderlying167 Tryz.sizeOf5 rfl rfl (by omega) (by omega)) rfl ?_)))))))
  refine ops_val (yld_load (u := .int .u8 (c.toNat : Int)) 0 Tryz.isAgg5 rfl rfl (by rw [show 0 + ((k : Int)).toNat * 1 = k by omega]; exact lg_bytes hc)) rfl ?_
  refine ops_val (yld_assign rfl) rfl (ops_nil (fin_next rfl (run_seq (run_region (ops_val (yld_move rfl) rfl (ops_callB (isLetter_c c) rfl (.refl _) (fun _ _ _ => trivial) rfl fun r2 hr2 => ?_))))))
  refine ops_val (yld_not rfl) rfl ?_
  refine ops_val (yld_move rfl) rfl ?_
  cases r2
  ·
   refine ops_yes rfl rfl (ops_val (yld_move rfl) rfl (ops_yes rfl rfl (ops_valB (yld_neq rfl rfl) rfl fun r3 hr3 => ?_)))
   refine ops_val (yld_pick_t rfl rfl) rfl ?_
   refine ops_val (yld_move rfl) rfl ?_
   cases r3
   ·
    replace hr3 := eq_of_bne hr3
    refine ops_no rfl rfl rfl rfl (ops_no rfl rfl rfl rfl (ops_no rfl rfl rfl rfl (ops_no rfl rfl rfl rfl (ops_no rfl rfl rfl rfl (ops_no rfl rfl rfl rfl (ops_val (yld_pick_f rfl rfl) rfl ?_))))))
    refine ops_nil (fin_next rfl (run_cond_f rfl (run_skip (fin_next rfl (run_region (ops_val (yld_arith rfl rfl rfl (wrap64 (by omega) (by omega))) rfl ?_))))))
    refine ops_val (yld_move rfl) rfl (ops_nil (fin_inv rfl ?_))
    exact ok_again ⟨k + 1, hlt, take_all_succ _ s k c hc hk.2 (by simp [innerS, *] <;> omega)⟩ (by simp; omega) ⟨rfl, rfl, rfl, trivial⟩ (.refl _) (fun _ _ h => h)
   ·
    replace hr3 := ne_of_bne hr3
    refine ops_yes rfl rfl (ops_val (yld_move rfl) rfl (ops_yes rfl rfl (ops_valB (yld_lss rfl rfl) rfl fun r4 hr4 => ?_)))
    refine ops_yes rfl rfl (ops_val (yld_move rfl) rfl ?_)
    cases r4
    ·
     replace hr4 := of_decide_eq_false hr4
     refine ops_yes rfl rfl (ops_val (yld_move rfl) rfl (ops_yes rfl rfl (ops_valB (yld_gtr rfl rfl) rfl fun r5 hr5 => ?_)))
     refine ops_yes rfl rfl (ops_val (yld_pick_f rfl rfl) rfl ?_)
     refine ops_val (yld_pick_t rfl rfl) rfl ?_
     refine ops_nil (fin_next rfl ?_)
     cases r5
     ·
      replace hr5 := of_decide_eq_false hr5
      refine run_cond_f rfl (run_skip (fin_next rfl (run_region (ops_val (yld_arith rfl rfl rfl (wrap64 (by omega) (by omega))) rfl ?_))))
      refine ops_val (yld_move rfl) rfl (ops_nil (fin_inv rfl ?_))
      exact ok_again ⟨k + 1, hlt, take_all_succ _ s k c hc hk.2 (by simp [innerS, *] <;> omega)⟩ (by simp; omega) ⟨rfl, rfl, rfl, trivial⟩ (.refl _) (fun _ _ h => h)
     ·
      replace hr5 := of_decide_eq_true hr5
      refine run_cond_t rfl (run_seq (run_region (ops_val (yld_assign rfl) rfl (ops_nil (fin_next rfl (run_ret ?_))))))
      exact ret1 Tryz.results120 () (get_bool rfl (by rw [tailS, take_all_not innerS s k c hc (by simp [innerS, *] <;> omega)])) (.refl _) (fun _ _ _ => trivial)
    ·
     replace hr4 := of_decide_eq_true hr4
     refine ops_no rfl rfl rfl rfl (ops_no rfl rfl rfl rfl (ops_yes rfl rfl (ops_val (yld_pick_t rfl rfl) rfl ?_)))
     refine ops_val (yld_pick_t rfl rfl) rfl ?_
     refine ops_nil (fin_next rfl (run_cond_t rfl (run_seq (run_region (ops_val (yld_assign rfl) rfl (ops_nil (fin_next rfl ?_)))))))
     refine run_ret ?_
     exact ret1 Tryz.results120 () (get_bool rfl (by rw [tailS, take_all_not innerS s k c hc (by simp [innerS, *] <;> omega)])) (.refl _) (fun _ _ _ => trivial)
  ·
   refine ops_no rfl rfl rfl rfl (ops_no rfl rfl rfl rfl (ops_val (yld_pick_f rfl rfl) rfl ?_))
   refine ops_val (yld_move rfl) rfl (ops_no rfl rfl rfl rfl (ops_no rfl rfl rfl rfl (ops_no rfl rfl rfl rfl (ops_no rfl rfl rfl rfl (ops_no rfl rfl rfl rfl (ops_no rfl rfl rfl rfl (ops_val (yld_pick_f rfl rfl) rfl ?_)))))))
   refine ops_nil (fin_next rfl (run_cond_f rfl (run_skip (fin_next rfl (run_region (ops_val (yld_arith rfl rfl rfl (wrap64 (by omega) (by omega))) rfl ?_))))))
   refine ops_val (yld_move rfl) rfl (ops_nil (fin_inv rfl ?_))
   exact ok_again ⟨k + 1, hlt, take_all_succ _ s k c hc hk.2 (by simp [innerS, *] <;> omega)⟩ (by simp; omega) ⟨rfl, rfl, rfl, trivial⟩ (.refl _) (fun _ _ h => h)

theorem keyword_c (s : Str) :
  Fn0 Tryz.prog 150 #[str s] (.bool (keywordS s)) := by
 refine tri_of_body Tryz.func150 rfl rfl Tryz.ntmps150 rfl fun v0 => ?_
 refine run_seq (run_region (ops_val (yld_assign rfl) rfl (ops_nil (fin_next rfl (run_seq (run_seq (run_region ?_)))))))
 refine ops_val (yld_move rfl) rfl (ops_nil (fin_next rfl (run_block (run_seq (run_seq (run_region (ops_valB (yld_seql rfl rfl) rfl fun r1 hr1 => ?_)))))))
 refine ops_val (yld_assign rfl) rfl (ops_nil (fin_next rfl ?_))
 cases r1
 ·
  replace hr1 := ne_of_beq_false hr1
  refine run_cond_f rfl (run_seq (run_region (ops_valB (yld_seql rfl rfl) rfl fun r2 hr2 => ?_)))
  refine ops_val (yld_assign rfl) rfl (ops_nil (fin_next rfl ?_))
  cases r2
  ·
   replace hr2 := ne_of_beq_false hr2
   refine run_cond_f rfl (run_seq (run_region (ops_valB (yld_seql rfl rfl) rfl fun r3 hr3 => ?_)))
   refine ops_val (yld_assign rfl) rfl (ops_nil (fin_next rfl ?_))
   cases r3
   ·
    replace hr3 := ne_of_beq_false hr3
    refine run_cond_f rfl (run_seq (run_region (ops_valB (yld_seql rfl rfl) rfl fun r4 hr4 => ?_)))
    refine ops_val (yld_assign rfl) rfl (ops_nil (fin_next rfl ?_))
    cases r4
    ·
     replace hr4 := ne_of_beq_false hr4
     refine run_cond_f rfl (run_seq (run_region (ops_valB (yld_seql rfl rfl) rfl fun r5 hr5 => ?_)))
     refine ops_val (yld_assign rfl) rfl (ops_nil (fin_next rfl ?_))
     cases r5
     ·
      replace hr5 := ne_of_beq_false hr5
      refine run_cond_f rfl (run_seq (run_region (ops_valB (yld_seql rfl rfl) rfl fun r6 hr6 => ?_)))
      refine ops_val (yld_assign rfl) rfl (ops_nil (fin_next rfl ?_))
      cases r6
      ·
       replace hr6 := ne_of_beq_false hr6
       refine run_cond_f rfl (run_seq (run_region (ops_valB (yld_seql rfl rfl) rfl fun r7 hr7 => ?_)))
       refine ops_val (yld_assign rfl) rfl (ops_nil (fin_next rfl ?_))
       cases r7
       ·
        replace hr7 := ne_of_beq_false hr7
        refine run_cond_f rfl (run_seq (run_region (ops_valB (yld_seql rfl rfl) rfl fun r8 hr8 => ?_)))
        refine ops_val (yld_assign rfl) rfl (ops_nil (fin_next rfl ?_))
        cases r8
        ·
         replace hr8 := ne_of_beq_false hr8
         refine run_cond_f rfl (run_seq (run_region (ops_valB (yld_seql rfl rfl) rfl fun r9 hr9 => ?_)))
         refine ops_val (yld_assign rfl) rfl (ops_nil (fin_next rfl ?_))
         cases r9
         ·
          replace hr9 := ne_of_beq_false hr9
          refine run_cond_f rfl (run_seq (run_region (ops_valB (yld_seql rfl rfl) rfl fun r10 hr10 => ?_)))
          refine ops_val (yld_assign rfl) rfl (ops_nil (fin_next rfl ?_))
          cases r10
          ·
           replace hr10 := ne_of_beq_false hr10
           refine run_cond_f rfl (run_seq (run_region (ops_valB (yld_seql rfl rfl) rfl fun r11 hr11 => ?_)))
           refine ops_val (yld_assign rfl) rfl (ops_nil (fin_next rfl ?_))
           cases r11
           ·
            replace hr11 := ne_of_beq_false hr11
            refine run_cond_f rfl (run_seq (run_region (ops_valB (yld_seql rfl rfl) rfl fun r12 hr12 => ?_)))
            refine ops_val (yld_assign rfl) rfl (ops_nil (fin_next rfl ?_))
            cases r12
            ·
             replace hr12 := ne_of_beq_false hr12
             refine run_cond_f rfl (run_seq (run_region (ops_valB (yld_seql rfl rfl) rfl fun r13 hr13 => ?_)))
             refine ops_val (yld_assign rfl) rfl (ops_nil (fin_next rfl ?_))
             cases r13
             ·
              replace hr13 := ne_of_beq_false hr13
              refine run_cond_f rfl (run_seq (run_region (ops_valB (yld_seql rfl rfl) rfl fun r14 hr14 => ?_)))
              refine ops_val (yld_assign rfl) rfl (ops_nil (fin_next rfl ?_))
              cases r14
              ·
               replace hr14 := ne_of_beq_false hr14
               refine run_cond_f rfl (run_seq (run_region (ops_valB (yld_seql rfl rfl) rfl fun r15 hr15 => ?_)))
               refine ops_val (yld_assign rfl) rfl (ops_nil (fin_next rfl ?_))
               cases r15
               ·
                replace hr15 := ne_of_beq_false hr15
                refine run_cond_f rfl (run_seq (run_region (ops_valB (yld_seql rfl rfl) rfl fun r16 hr16 => ?_)))
                refine ops_val (yld_assign rfl) rfl (ops_nil (fin_next rfl ?_))
                cases r16
                ·
                 replace hr16 := ne_of_beq_false hr16
                 refine run_cond_f rfl (run_seq (run_region (ops_valB (yld_seql rfl rfl) rfl fun r17 hr17 => ?_)))
                 refine ops_val (yld_assign rfl) rfl (ops_nil (fin_next rfl ?_))
                 cases r17
                 ·
                  replace hr17 := ne_of_beq_false hr17
                  refine run_cond_f rfl (run_seq (run_region (ops_valB (yld_seql rfl rfl) rfl fun r18 hr18 => ?_)))
                  refine ops_val (yld_assign rfl) rfl (ops_nil (fin_next rfl ?_))
                  cases r18
                  ·
                   replace hr18 := ne_of_beq_false hr18
                   refine run_cond_f rfl (run_seq (run_region (ops_valB (yld_seql rfl rfl) rfl fun r19 hr19 => ?_)))
                   refine ops_val (yld_assign rfl) rfl (ops_nil (fin_next rfl ?_))
                   cases r19
                   ·
                    replace hr19 := ne_of_beq_false hr19
                    refine run_cond_f rfl (run_seq (run_region (ops_valB (yld_seql rfl rfl) rfl fun r20 hr20 => ?_)))
                    refine ops_val (yld_assign rfl) rfl (ops_nil (fin_next rfl ?_))
                    cases r20
                    ·
                     replace hr20 := ne_of_beq_false hr20
                     refine run_cond_f rfl (run_seq (run_region (ops_valB (yld_seql rfl rfl) rfl fun r21 hr21 => ?_)))
                     refine ops_val (yld_assign rfl) rfl (ops_nil (fin_next rfl ?_))
                     cases r21
                     ·
                      replace hr21 := ne_of_beq_false hr21
                      refine run_cond_f rfl (run_region (ops_valB (yld_seql rfl rfl) rfl fun r22 hr22 => ?_))
                      refine ops_val (yld_assign rfl) rfl (ops_nil (fin_next rfl ?_))
                      cases r22
                      ·
                       replace hr22 := ne_of_beq_false hr22
                       refine run_cond_f rfl (run_skip (fin_next rfl (run_seq (run_region (ops_val (yld_assign rfl) rfl (ops_nil (fin_next rfl ?_)))))))
                       refine run_ret ?_
                       exact ret1 Tryz.results150 () (get_bool rfl (by simp [keywordS, kws, *])) (.refl _) (fun _ _ _ => trivial)
                      ·
                       replace hr22 := eq_of_beq hr22
                       refine run_cond_t rfl (run_seq (run_region (ops_val (yld_assign rfl) rfl (ops_nil (fin_next rfl (run_ret ?_))))))
                       exact ret1 Tryz.results150 () (get_bool rfl (by simp [keywordS, kws, *])) (.refl _) (fun _ _ _ => trivial)
                     ·
                      replace hr21 := eq_of_beq hr21
                      refine run_cond_t rfl (run_skip (fin_next rfl (run_cond_t rfl (run_seq (run_region (ops_val (yld_assign rfl) rfl (ops_nil ?_)))))))
                      refine fin_next rfl (run_ret ?_)
                      exact ret1 Tryz.results150 () (get_bool rfl (by simp [keywordS, kws, *])) (.refl _) (fun _ _ _ => trivial)
                    ·
                     replace hr20 := eq_of_beq hr20
                     refine run_cond_t rfl (run_skip (fin_next rfl (run_cond_t rfl (run_seq (run_region (ops_val (yld_assign rfl) rfl (ops_nil ?_)))))))
                     refine fin_next rfl (run_ret ?_)
                     exact ret1 Tryz.results150 () (get_bool rfl (by simp [keywordS, kws, *])) (.refl _) (fun _ _ _ => trivial)
                   ·
                    replace hr19 := eq_of_beq hr19
                    refine run_cond_t rfl (run_skip (fin_next rfl (run_cond_t rfl (run_seq (run_region (ops_val (yld_assign rfl) rfl (ops_nil ?_)))))))
                    refine fin_next rfl (run_ret ?_)
                    exact ret1 Tryz.results150 () (get_bool rfl (by simp [keywordS, kws, *])) (.refl _) (fun _ _ _ => trivial)
                  ·
                   replace hr18 := eq_of_beq hr18
                   refine run_cond_t rfl (run_skip (fin_next rfl (run_cond_t rfl (run_seq (run_region (ops_val (yld_assign rfl) rfl (ops_nil ?_)))))))
                   refine fin_next rfl (run_ret ?_)
                   exact ret1 Tryz.results150 () (get_bool rfl (by simp [keywordS, kws, *])) (.refl _) (fun _ _ _ => trivial)
                 ·
                  replace hr17 := eq_of_beq hr17
                  refine run_cond_t rfl (run_skip (fin_next rfl (run_cond_t rfl (run_seq (run_region (ops_val (yld_assign rfl) rfl (ops_nil ?_)))))))
                  refine fin_next rfl (run_ret ?_)
                  exact ret1 Tryz.results150 () (get_bool rfl (by simp [keywordS, kws, *])) (.refl _) (fun _ _ _ => trivial)
                ·
                 replace hr16 := eq_of_beq hr16
                 refine run_cond_t rfl (run_skip (fin_next rfl (run_cond_t rfl (run_seq (run_region (ops_val (yld_assign rfl) rfl (ops_nil ?_)))))))
                 refine fin_next rfl (run_ret ?_)
                 exact ret1 Tryz.results150 () (get_bool rfl (by simp [keywordS, kws, *])) (.refl _) (fun _ _ _ => trivial)
               ·
                replace hr15 := eq_of_beq hr15
                refine run_cond_t rfl (run_skip (fin_next rfl (run_cond_t rfl (run_seq (run_region (ops_val (yld_assign rfl) rfl (ops_nil ?_)))))))
                refine fin_next rfl (run_ret ?_)
                exact ret1 Tryz.results150 () (get_bool rfl (by simp [keywordS, kws, *])) (.refl _) (fun _ _ _ => trivial)
              ·
               replace hr14 := eq_of_beq hr14
               refine run_cond_t rfl (run_skip (fin_next rfl (run_cond_t rfl (run_seq (run_region (ops_val (yld_assign rfl) rfl (ops_nil ?_)))))))
               refine fin_next rfl (run_ret ?_)
               exact ret1 Tryz.results150 () (get_bool rfl (by simp [keywordS, kws, *])) (.refl _) (fun _ _ _ => trivial)
             ·
              replace hr13 := eq_of_beq hr13
              refine run_cond_t rfl (run_skip (fin_next rfl (run_cond_t rfl (run_seq (run_region (ops_val (yld_assign rfl) rfl (ops_nil ?_)))))))
              refine fin_next rfl (run_ret ?_)
              exact ret1 Tryz.results150 () (get_bool rfl (by simp [keywordS, kws, *])) (.refl _) (fun _ _ _ => trivial)
            ·
             replace hr12 := eq_of_beq hr12
             refine run_cond_t rfl (run_skip (fin_next rfl (run_cond_t rfl (run_seq (run_region (ops_val (yld_assign rfl) rfl (ops_nil ?_)))))))
             refine fin_next rfl (run_ret ?_)
             exact ret1 Tryz.results150 () (get_bool rfl (by simp [keywordS, kws, *])) (.refl _) (fun _ _ _ => trivial)
           ·
            replace hr11 := eq_of_beq hr11
            refine run_cond_t rfl (run_skip (fin_next rfl (run_cond_t rfl (run_seq (run_region (ops_val (yld_assign rfl) rfl (ops_nil ?_)))))))
            refine fin_next rfl (run_ret ?_)
            exact ret1 Tryz.results150 () (get_bool rfl (by simp [keywordS, kws, *])) (.refl _) (fun _ _ _ => trivial)
          ·
           replace hr10 := eq_of_beq hr10
           refine run_cond_t rfl (run_skip (fin_next rfl (run_cond_t rfl (run_seq (run_region (ops_val (yld_assign rfl) rfl (ops_nil ?_)))))))
           refine fin_next rfl (run_ret ?_)
           exact ret1 Tryz.results150 () (get_bool rfl (by simp [keywordS, kws, *])) (.refl _) (fun _ _ _ => trivial)
         ·
          replace hr9 := eq_of_beq hr9
          refine run_cond_t rfl (run_skip (fin_next rfl (run_cond_t rfl (run_seq (run_region (ops_val (yld_assign rfl) rfl (ops_nil ?_)))))))
          refine fin_next rfl (run_ret ?_)
          exact ret1 Tryz.results150 () (get_bool rfl (by simp [keywordS, kws, *])) (.refl _) (fun _ _ _ => trivial)
        ·
         replace hr8 := eq_of_beq hr8
         refine run_cond_t rfl (run_skip (fin_next rfl (run_cond_t rfl (run_seq (run_region (ops_val (yld_assign rfl) rfl (ops_nil ?_)))))))
         refine fin_next rfl (run_ret ?_)
         exact ret1 Tryz.results150 () (get_bool rfl (by simp [keywordS, kws, *])) (.refl _) (fun _ _ _ => trivial)
       ·
        replace hr7 := eq_of_beq hr7
        refine run_cond_t rfl (run_skip (fin_next rfl (run_cond_t rfl (run_seq (run_region (ops_val (yld_assign rfl) rfl (ops_nil ?_)))))))
        refine fin_next rfl (run_ret ?_)
        exact ret1 Tryz.results150 () (get_bool rfl (by simp [keywordS, kws, *])) (.refl _) (fun _ _ _ => trivial)
      ·
       replace hr6 := eq_of_beq hr6
       refine run_cond_t rfl (run_skip (fin_next rfl (run_cond_t rfl (run_seq (run_region (ops_val (yld_assign rfl) rfl (ops_nil ?_)))))))
       refine fin_next rfl (run_ret ?_)
       exact ret1 Tryz.results150 () (get_bool rfl (by simp [keywordS, kws, *])) (.refl _) (fun _ _ _ => trivial)
     ·
      replace hr5 := eq_of_beq hr5
      refine run_cond_t rfl (run_skip (fin_next rfl (run_cond_t rfl (run_seq (run_region (ops_val (yld_assign rfl) rfl (ops_nil ?_)))))))
      refine fin_next rfl (run_ret ?_)
      exact ret1 Tryz.results150 () (get_bool rfl (by simp [keywordS, kws, *])) (.refl _) (fun _ _ _ => trivial)
    ·
     replace hr4 := eq_of_beq hr4
     refine run_cond_t rfl (run_skip (fin_next rfl (run_cond_t rfl (run_seq (run_region (ops_val (yld_assign rfl) rfl (ops_nil ?_)))))))
     refine fin_next rfl (run_ret ?_)
     exact ret1 Tryz.results150 () (get_bool rfl (by simp [keywordS, kws, *])) (.refl _) (fun _ _ _ => trivial)
   ·
    replace hr3 := eq_of_beq hr3
    refine run_cond_t rfl (run_skip (fin_next rfl (run_cond_t rfl (run_seq (run_region (ops_val (yld_assign rfl) rfl (ops_nil ?_)))))))
    refine fin_next rfl (run_ret ?_)
    exact ret1 Tryz.results150 () (get_bool rfl (by simp [keywordS, kws, *])) (.refl _) (fun _ _ _ => trivial)
  ·
   replace hr2 := eq_of_beq hr2
   refine run_cond_t rfl (run_skip (fin_next rfl (run_cond_t rfl (run_seq (run_region (ops_val (yld_assign rfl) rfl (ops_nil ?_)))))))
   refine fin_next rfl (run_ret ?_)
   exact ret1 Tryz.results150 () (get_bool rfl (by simp [keywordS, kws, *])) (.refl _) (fun _ _ _ => trivial)
 ·
  replace hr1 := eq_of_beq hr1
  refine run_cond_t rfl (run_skip (fin_next rfl (run_cond_t rfl (run_seq (run_region (ops_val (yld_assign rfl) rfl (ops_nil ?_)))))))
  refine fin_next rfl (run_ret ?_)
  exact ret1 Tryz.results150 () (get_bool rfl (by simp [keywordS, kws, *])) (.refl _) (fun _ _ _ => trivial)

end Go.Proofs.YtoafjmalfclpoaaGreatDoor

/-
  My own contracts.
-/
namespace Go.Proofs.YtoafjmalfclpoaaGreatDoor
open Go Go.Sx Go.Proofs
set_option linter.unusedVariables false
attribute [local irreducible] Code.wp wpList wpAnyH

open Go.Vs
theorem isWord_c (s : Str) (hs : s.length ≤ 140737488351232) :
  Fn0 Tryz.prog 119 #[str s] (.bool (wordS s)) := by
 refine tri_of_body Tryz.func119 rfl rfl Tryz.ntmps119 rfl fun v0 => ?_
 refine run_seq (run_region (ops_val (yld_assign rfl) rfl (ops_nil (fin_next rfl (run_seq (run_region (ops_val (yld_move rfl) rfl ?_)))))))
 refine ops_valB (yld_sneq rfl rfl) rfl fun r1 hr1 => ?_
 refine ops_val (yld_move rfl) rfl ?_
 cases r1
 ·
  replace hr1 := eq_of_bne hr1
  refine ops_no rfl rfl rfl rfl (ops_no rfl rfl rfl rfl (ops_no rfl rfl rfl rfl (ops_val (yld_pick_f rfl rfl) rfl ?_)))
  refine ops_val (yld_move rfl) rfl (ops_no rfl rfl rfl rfl (ops_no rfl rfl rfl rfl (ops_val (yld_pick_f rfl rfl) rfl ?_)))
  refine ops_val (yld_move rfl) rfl (ops_no rfl rfl rfl rfl (ops_no rfl rfl rfl rfl (ops_no rfl rfl rfl rfl (ops_val (yld_pick_f rfl rfl) rfl ?_))))
  refine ops_val (yld_assign rfl) rfl (ops_nil (fin_next rfl (run_ret ?_)))
  exact ret1 Tryz.results119 () (get_bool rfl (by simp [wordS, *])) (.refl _) (fun _ _ _ => trivial)
 ·
  replace hr1 := ne_of_bne hr1
  obtain ⟨c, t, rfl⟩ := List.exists_cons_of_ne_nil hr1
  refine ops_yes rfl rfl (ops_val (yld_move rfl) rfl (ops_yes rfl rfl (ops_val (yld_indexT Tryz.runUnderlying9 rfl rfl (by decide) rfl) rfl ?_)))
  refine ops_yes rfl rfl (ops_callB (isLetter_c _) rfl (.refl _) (fun _ _ _ => trivial) rfl fun r2 hr2 => ?_)
  refine ops_val (yld_pick_t rfl rfl) rfl ?_
  refine ops_val (yld_move rfl) rfl ?_
  cases r2
  ·
   refine ops_no rfl rfl rfl rfl (ops_no rfl rfl rfl rfl (ops_val (yld_pick_f rfl rfl) rfl ?_))
   refine ops_val (yld_move rfl) rfl (ops_no rfl rfl rfl rfl (ops_no rfl rfl rfl rfl (ops_no rfl rfl rfl rfl (ops_val (yld_pick_f rfl rfl) rfl ?_))))
   refine ops_val (yld_assign rfl) rfl (ops_nil (fin_next rfl (run_ret ?_)))
   exact ret1 Tryz.results119 () (get_bool rfl (by simp [wordS, *])) (.refl _) (fun _ _ _ => trivial)
  ·
   refine ops_yes rfl rfl (ops_val (yld_move rfl) rfl (ops_yes rfl rfl (ops_callB (isTail_c _ (by assumption)) rfl (.refl _) (fun _ _ _ => trivial) rfl fun r3 hr3 => ?_)))
   refine ops_val (yld_pick_t rfl rfl) rfl ?_
   refine ops_val (yld_move rfl) rfl ?_
   cases r3
   ·
    refine ops_no rfl rfl rfl rfl (ops_no rfl rfl rfl rfl (ops_no rfl rfl rfl rfl (ops_val (yld_pick_f rfl rfl) rfl ?_)))
    refine ops_val (yld_assign rfl) rfl (ops_nil (fin_next rfl (run_ret ?_)))
    exact ret1 Tryz.results119 () (get_bool rfl (by simp [wordS, *])) (.refl _) (fun _ _ _ => trivial)
   ·
    refine ops_yes rfl rfl (ops_val (yld_move rfl) rfl (ops_yes rfl rfl (ops_callB (keyword_c _) rfl (.refl _) (fun _ _ _ => trivial) rfl fun r4 hr4 => ?_)))
    refine ops_yes rfl rfl (ops_val (yld_not rfl) rfl ?_)
    refine ops_val (yld_pick_t rfl rfl) rfl ?_
    refine ops_val (yld_assign rfl) rfl (ops_nil (fin_next rfl (run_ret ?_)))
    exact ret1 Tryz.results119 () (get_bool rfl (by simp [wordS, *])) (.refl _) (fun _ _ _ => trivial)

theorem isReserved_c (s : Str) (hs : s.length ≤ 140737488351232) :
  Fn0 Tryz.prog 64 #[str s] (.bool (reservedS s)) := by
 refine tri_of_body Tryz.func64 rfl rfl Tryz.ntmps64 rfl fun v0 => ?_
 refine run_seq (run_region (ops_val (yld_assign rfl) rfl (ops_nil (fin_next rfl (run_seq (run_region (ops_val (yld_move rfl) rfl ?_)))))))
 refine ops_val (yld_lenT Tryz.runUnderlying9 rfl) rfl ?_
 refine ops_valB (yld_geq rfl rfl) rfl fun r1 hr1 => ?_
 refine ops_val (yld_move rfl) rfl ?_
 cases r1
 ·
  replace hr1 := of_decide_eq_false hr1
  refine ops_no rfl rfl rfl rfl (ops_no rfl rfl rfl rfl (ops_no rfl rfl rfl rfl (ops_val (yld_pick_f rfl rfl) rfl ?_)))
  refine ops_val (yld_move rfl) rfl (ops_no rfl rfl rfl rfl (ops_no rfl rfl rfl rfl (ops_no rfl rfl rfl rfl (ops_val (yld_pick_f rfl rfl) rfl ?_))))
  refine ops_val (yld_move rfl) rfl (ops_no rfl rfl rfl rfl (ops_no rfl rfl rfl rfl (ops_val (yld_pick_f rfl rfl) rfl ?_)))
  refine ops_val (yld_assign rfl) rfl (ops_nil (fin_next rfl (run_ret ?_)))
  exact ret1 Tryz.results64 () (get_bool rfl (by subst_vars; rw [Bool.eq_iff_iff]; simp [reservedS] <;> simp at * <;> omega)) (.refl _) (fun _ _ _ => trivial)
 ·
  replace hr1 := of_decide_eq_true hr1
  refine ops_yes rfl rfl (ops_val (yld_move rfl) rfl (ops_yes rfl rfl (ops_val (yld_lenT Tryz.runUnderlying9 rfl) rfl ?_)))
  refine ops_yes rfl rfl (ops_valB (yld_leq rfl rfl) rfl fun r2 hr2 => ?_)
  refine ops_val (yld_pick_t rfl rfl) rfl ?_
  refine ops_val (yld_move rfl) rfl ?_
  cases r2
  ·
   replace hr2 := of_decide_eq_false hr2
   refine ops_no rfl rfl rfl rfl (ops_no rfl rfl rfl rfl (ops_no rfl rfl rfl rfl (ops_val (yld_pick_f rfl rfl) rfl ?_)))
   refine ops_val (yld_move rfl) rfl (ops_no rfl rfl rfl rfl (ops_no rfl rfl rfl rfl (ops_val (yld_pick_f rfl rfl) rfl ?_)))
   refine ops_val (yld_assign rfl) rfl (ops_nil (fin_next rfl (run_ret ?_)))
   exact ret1 Tryz.results64 () (get_bool rfl (by subst_vars; rw [Bool.eq_iff_iff]; simp [reservedS] <;> simp at * <;> omega)) (.refl _) (fun _ _ _ => trivial)
  ·
   replace hr2 := of_decide_eq_true hr2
   obtain ⟨c, t, rfl⟩ := List.exists_cons_of_length_pos (l := s) (by omega)
   refine ops_yes rfl rfl (ops_val (yld_move rfl) rfl (ops_yes rfl rfl (ops_val (yld_indexT Tryz.runUnderlying9 rfl rfl (by decide) rfl) rfl ?_)))
   refine ops_yes rfl rfl (ops_valB (yld_eql rfl rfl) rfl fun r3 hr3 => ?_)
   refine ops_val (yld_pick_t rfl rfl) rfl ?_
   refine ops_val (yld_move rfl) rfl ?_
   cases r3
   ·
    replace hr3 := ne_of_beq_false hr3
    refine ops_no rfl rfl rfl rfl (ops_no rfl rfl rfl rfl (ops_val (yld_pick_f rfl rfl) rfl ?_))
    refine ops_val (yld_assign rfl) rfl (ops_nil (fin_next rfl (run_ret ?_)))
    exact ret1 Tryz.results64 () (get_bool rfl (by subst_vars; rw [Bool.eq_iff_iff]; simp [reservedS] <;> simp at * <;> omega)) (.refl _) (fun _ _ _ => trivial)
   ·
    replace hr3 := eq_of_beq hr3
    refine ops_yes rfl rfl (ops_val (yld_move rfl) rfl (ops_yes rfl rfl (ops_callB (isTail_c _ (by assumption)) rfl (.refl _) (fun _ _ _ => trivial) rfl fun r4 hr4 => ?_)))
    refine ops_val (yld_pick_t rfl rfl) rfl ?_
    refine ops_val (yld_assign rfl) rfl (ops_nil (fin_next rfl (run_ret ?_)))
    exact ret1 Tryz.results64 () (get_bool rfl (by subst_vars; rw [Bool.eq_iff_iff]; simp [reservedS] <;> simp at * <;> omega)) (.refl _) (fun _ _ _ => trivial)

theorem index_one_c (s : Str) (c : UInt8) : Fn0 Tryz.prog 172 #[str s, str [c]] (.int .i64 (Lib.indexByte s c)) :=
  fn0_of_calls (callable Tryz.func172 rfl rfl) fun w => (Tryz.stringslite_Index_one ⟨s.toArray⟩ c w).mono (by rintro e w' ⟨rfl, rfl⟩; exact ⟨rfl, rfl, rfl, rfl, rfl⟩)

theorem index_none_c (s : Str) (c : UInt8) (hk : ixS c s = none) : Fn0 Tryz.prog 172 #[str s, str [c]] (.int .i64 (-1)) := by
  have h := index_one_c s c
  rw [ixS_lib, hk] at h
  exact h
theorem index_some_c (s : Str) (c : UInt8) (k : Nat) (hk : ixS c s = some k) : Fn0 Tryz.prog 172 #[str s, str [c]] (.int .i64 (k : Int)) := by
  have h := index_one_c s c
  rw [ixS_lib, hk] at h
  exact h

theorem cutl_none (s : Str) (c : UInt8) (hk : ixS c s = none) :
    Fn0 Tryz.prog 148 #[str s, str [c]] (.tuple #[str s, str [], .bool false]) := by
  refine tri_of_body Tryz.func148 rfl rfl Tryz.ntmps148 rfl fun v0 => ?_
  refine run_seq (run_region (ops_val (yld_assign rfl) rfl (ops_val (yld_assign rfl) rfl (ops_val (yld_assign rfl) rfl (ops_nil (fin_next rfl (run_seq ?_)))))))
  refine run_seq (run_region (ops_val (yld_move rfl) rfl (ops_val (yld_move rfl) rfl (ops_call (index_none_c s c hk) rfl (.refl _) (fun _ _ _ => trivial) rfl fun _ => ?_))))
  refine ops_val (yld_assign rfl) rfl (ops_nil (fin_next rfl (run_seq (run_region (ops_val (yld_move rfl) rfl (ops_valB (yld_geq rfl rfl) rfl fun r1 hr1 => ?_))))))
  refine ops_nil (fin_next rfl ?_)
  cases r1
  · skip
    replace hr1 := of_decide_eq_false hr1
    refine run_cond_f rfl (run_skip (fin_next rfl (run_seq (run_region (ops_val (yld_move rfl) rfl (ops_val (yld_assign rfl) rfl (ops_val (yld_assign rfl) rfl ?_)))))))
    refine ops_val (yld_assign rfl) rfl (ops_nil (fin_next rfl (run_ret ?_)))
    exact ret3 Tryz.results148 () rfl rfl rfl rfl (.refl _) (fun _ _ _ => trivial)
  · skip
    replace hr1 := of_decide_eq_true hr1
    exact absurd hr1 (by decide)

theorem cutl_some (s : Str) (c : UInt8) (k : Nat) (hk : ixS c s = some k) (hl : k < s.length) (hs : s.length ≤ 140737488351232) :
    Fn0 Tryz.prog 148 #[str s, str [c]] (.tuple #[str (s.take k), str (s.drop (k + 1)), .bool true]) := by
  refine tri_of_body Tryz.func148 rfl rfl Tryz.ntmps148 rfl fun v0 => ?_
  refine run_seq (run_region (ops_val (yld_assign rfl) rfl (ops_val (yld_assign rfl) rfl (ops_val (yld_assign rfl) rfl (ops_nil (fin_next rfl (run_seq ?_)))))))
  refine run_seq (run_region (ops_val (yld_move rfl) rfl (ops_val (yld_move rfl) rfl (ops_call (index_some_c s c k hk) rfl (.refl _) (fun _ _ _ => trivial) rfl fun _ => ?_))))
  refine ops_val (yld_assign rfl) rfl (ops_nil (fin_next rfl (run_seq (run_region (ops_val (yld_move rfl) rfl (ops_valB (yld_geq rfl rfl) rfl fun r1 hr1 => ?_))))))
  refine ops_nil (fin_next rfl ?_)
  cases r1
  · skip
    replace hr1 := of_decide_eq_false hr1
    exact absurd (by omega) hr1
  · skip
    replace hr1 := of_decide_eq_true hr1
    refine run_cond_t rfl (run_seq ?_)
    refine run_draw' (by kernel_rfl) ?_
    refine any_sq 0 [0, 1, 2, 3, 4, 5, 6, 7, 8, 9, 10, 11] (by kernel_rfl) (fun _ a b => ⟨a, b⟩) ?_
    refine sq_val rfl (yld_move rfl) rfl ?_
    refine sq_val rfl (yld_move rfl) rfl ?_
    refine sq_val rfl (yld_sliceT (i := 0) (j := k) (kl := .i64) Tryz.runUnderlying9 rfl rfl rfl (by omega) (by omega)) rfl ?_
    refine sq_val rfl (yld_move rfl) rfl ?_
    refine sq_val rfl (yld_move rfl) rfl ?_
    refine sq_val rfl (yld_move rfl) rfl ?_
    refine sq_val rfl (yld_lenT Tryz.runUnderlying9 rfl) rfl ?_
    refine sq_val rfl (yld_arith rfl rfl rfl (wrap64 (by simp only [List.length_cons, List.length_nil]; omega) (by simp only [List.length_cons, List.length_nil]; omega))) rfl ?_
    refine sq_val rfl (yld_sliceT (i := k + 1) (j := s.length) (kh := .i64) Tryz.runUnderlying9 rfl rfl rfl (by omega) (by omega)) rfl ?_
    refine sq_val rfl (yld_assign rfl) rfl ?_
    refine sq_val rfl (yld_assign rfl) rfl ?_
    refine sq_val rfl (yld_assign rfl) rfl ?_
    refine sq_nil ?_
    refine any_done (by kernel_rfl) ?_
    refine fin_next rfl (run_ret ?_)
    exact ret3 Tryz.results148 () rfl rfl rfl (by simp [List.take_of_length_le]) (.refl _) (fun _ _ _ => trivial)

theorem cut_none (s : Str) (c : UInt8) (hk : ixS c s = none) :
    Fn0 Tryz.prog 118 #[str s, str [c]] (.tuple #[str s, str [], .bool false]) := by
  refine tri_of_body Tryz.func118 rfl rfl Tryz.ntmps118 rfl fun v0 => ?_
  refine run_seq (run_region (ops_val (yld_assign rfl) rfl (ops_val (yld_assign rfl) rfl (ops_val (yld_assign rfl) rfl (ops_nil (fin_next rfl (run_seq ?_)))))))
  refine run_region (ops_val (yld_move rfl) rfl (ops_val (yld_move rfl) rfl (ops_call (cutl_none s c hk) rfl (.refl _) (fun _ _ _ => trivial) rfl fun _ => ?_)))
  refine ops_val (yld_extract rfl rfl) rfl ?_
  refine ops_val (yld_extract rfl rfl) rfl ?_
  refine ops_val (yld_extract rfl rfl) rfl ?_
  refine ops_val (yld_assign rfl) rfl (ops_val (yld_assign rfl) rfl (ops_val (yld_assign rfl) rfl (ops_nil (fin_next rfl (run_ret ?_)))))
  exact ret3 Tryz.results118 () rfl rfl rfl rfl (.refl _) (fun _ _ _ => trivial)

theorem isPlain_none (s : Str) (hk : ixS 58 s = none) :
    Fn0 Tryz.prog 63 #[str s] (.bool (plainS s)) := by
  refine tri_of_body Tryz.func63 rfl rfl Tryz.ntmps63 rfl fun v0 => ?_
  refine run_seq (run_region (ops_val (yld_assign rfl) rfl (ops_nil (fin_next rfl (run_seq (run_seq (run_region ?_)))))))
  refine ops_val (yld_move rfl) rfl (ops_val (yld_lenT Tryz.runUnderlying9 rfl) rfl ?_)
  refine ops_valB (yld_gtr rfl rfl) rfl fun r1 hr1 => ?_
  refine ops_nil (fin_next rfl ?_)
  cases r1
  · skip
    replace hr1 := of_decide_eq_false hr1
    refine run_cond_f rfl (run_skip (fin_next rfl (run_seq (run_region (ops_val (yld_move rfl) rfl (ops_call (cut_none s 58 hk) rfl (.refl _) (fun _ _ _ => trivial) rfl fun _ => ?_))))))
    refine ops_val (yld_move rfl) rfl (ops_val (yld_extract rfl rfl) rfl ?_)
    refine ops_val (yld_extract rfl rfl) rfl ?_
    refine ops_val (yld_extract rfl rfl) rfl ?_
    refine ops_val (yld_assign rfl) rfl (ops_val (yld_assign rfl) rfl (ops_val (yld_assign rfl) rfl (ops_nil (fin_next rfl (run_seq (run_region (ops_val (yld_move rfl) rfl ?_)))))))
    refine ops_callB (isWord_c _ (by first | omega | (simp; omega))) rfl (.refl _) (fun _ _ _ => trivial) rfl fun r2 hr2 => ?_
    refine ops_val (yld_move rfl) rfl ?_
    cases r2
    · skip
      refine ops_no rfl rfl rfl rfl (ops_no rfl rfl rfl rfl (ops_no rfl rfl rfl rfl (ops_no rfl rfl rfl rfl (ops_no rfl rfl rfl rfl (ops_no rfl rfl rfl rfl (ops_val (yld_pick_f rfl rfl) rfl ?_))))))
      refine ops_val (yld_assign rfl) rfl (ops_nil (fin_next rfl (run_ret ?_)))
      exact ret1 Tryz.results63 () (get_bool rfl (by simp [plainS, *] <;> omega)) (.refl _) (fun _ _ _ => trivial)
    · skip
      refine ops_yes rfl rfl (ops_val (yld_move rfl) rfl (ops_yes rfl rfl (ops_val (yld_not rfl) rfl ?_)))
      refine ops_yes rfl rfl (ops_val (yld_move rfl) rfl (ops_no rfl rfl rfl rfl (ops_no rfl rfl rfl rfl (ops_yes rfl rfl (ops_val (yld_pick_t rfl rfl) rfl ?_)))))
      refine ops_val (yld_pick_t rfl rfl) rfl ?_
      refine ops_val (yld_assign rfl) rfl (ops_nil (fin_next rfl (run_ret ?_)))
      exact ret1 Tryz.results63 () (get_bool rfl (by simp [plainS, *] <;> omega)) (.refl _) (fun _ _ _ => trivial)
  · skip
    replace hr1 := of_decide_eq_true hr1
    refine run_cond_t rfl (run_seq (run_region (ops_val (yld_assign rfl) rfl (ops_nil (fin_next rfl (run_ret ?_))))))
    exact ret1 Tryz.results63 () (get_bool rfl (by simp [plainS, *] <;> omega)) (.refl _) (fun _ _ _ => trivial)

theorem cut_some (s : Str) (c : UInt8) (k : Nat) (hk : ixS c s = some k) (hl : k < s.length) (hs : s.length ≤ 140737488351232) :
    Fn0 Tryz.prog 118 #[str s, str [c]] (.tuple #[str (s.take k), str (s.drop (k + 1)), .bool true]) := by
  refine tri_of_body Tryz.func118 rfl rfl Tryz.ntmps118 rfl fun v0 => ?_
  refine run_seq (run_region (ops_val (yld_assign rfl) rfl (ops_val (yld_assign rfl) rfl (ops_val (yld_assign rfl) rfl (ops_nil (fin_next rfl (run_seq ?_)))))))
  refine run_region (ops_val (yld_move rfl) rfl (ops_val (yld_move rfl) rfl (ops_call (cutl_some s c k hk hl hs) rfl (.refl _) (fun _ _ _ => trivial) rfl fun _ => ?_)))
  refine ops_val (yld_extract rfl rfl) rfl ?_
  refine ops_val (yld_extract rfl rfl) rfl ?_
  refine ops_val (yld_extract rfl rfl) rfl ?_
  refine ops_val (yld_assign rfl) rfl (ops_val (yld_assign rfl) rfl (ops_val (yld_assign rfl) rfl (ops_nil (fin_next rfl (run_ret ?_)))))
  exact ret3 Tryz.results118 () rfl rfl rfl rfl (.refl _) (fun _ _ _ => trivial)

theorem isPlain_some (s : Str) (k : Nat) (hk : ixS 58 s = some k) (hl : k < s.length) :
    Fn0 Tryz.prog 63 #[str s] (.bool (plainS s)) := by
  refine tri_of_body Tryz.func63 rfl rfl Tryz.ntmps63 rfl fun v0 => ?_
  refine run_seq (run_region (ops_val (yld_assign rfl) rfl (ops_nil (fin_next rfl (run_seq (run_seq (run_region ?_)))))))
  refine ops_val (yld_move rfl) rfl (ops_val (yld_lenT Tryz.runUnderlying9 rfl) rfl ?_)
  refine ops_valB (yld_gtr rfl rfl) rfl fun r1 hr1 => ?_
  refine ops_nil (fin_next rfl ?_)
  cases r1
  · skip
    replace hr1 := of_decide_eq_false hr1
    refine run_cond_f rfl (run_skip (fin_next rfl (run_seq (run_region (ops_val (yld_move rfl) rfl (ops_call (cut_some s 58 k hk hl (by omega)) rfl (.refl _) (fun _ _ _ => trivial) rfl fun _ => ?_))))))
    refine ops_val (yld_move rfl) rfl (ops_val (yld_extract rfl rfl) rfl ?_)
    refine ops_val (yld_extract rfl rfl) rfl ?_
    refine ops_val (yld_extract rfl rfl) rfl ?_
    refine ops_val (yld_assign rfl) rfl (ops_val (yld_assign rfl) rfl (ops_val (yld_assign rfl) rfl (ops_nil (fin_next rfl (run_seq (run_region (ops_val (yld_move rfl) rfl ?_)))))))
    refine ops_callB (isWord_c _ (by first | omega | (simp; omega))) rfl (.refl _) (fun _ _ _ => trivial) rfl fun r2 hr2 => ?_
    refine ops_val (yld_move rfl) rfl ?_
    cases r2
    · skip
      refine ops_no rfl rfl rfl rfl (ops_no rfl rfl rfl rfl (ops_no rfl rfl rfl rfl (ops_no rfl rfl rfl rfl (ops_no rfl rfl rfl rfl (ops_no rfl rfl rfl rfl (ops_val (yld_pick_f rfl rfl) rfl ?_))))))
      refine ops_val (yld_assign rfl) rfl (ops_nil (fin_next rfl (run_ret ?_)))
      exact ret1 Tryz.results63 () (get_bool rfl (by simp [plainS, *] <;> omega)) (.refl _) (fun _ _ _ => trivial)
    · skip
      refine ops_yes rfl rfl (ops_val (yld_move rfl) rfl (ops_yes rfl rfl (ops_val (yld_not rfl) rfl ?_)))
      refine ops_yes rfl rfl (ops_val (yld_move rfl) rfl (ops_yes rfl rfl (ops_val (yld_move rfl) rfl (ops_yes rfl rfl (ops_callB (isWord_c _ (by first | omega | (simp; omega))) rfl (.refl _) (fun _ _ _ => trivial) rfl fun r3 hr3 => ?_)))))
      refine ops_yes rfl rfl (ops_val (yld_pick_f rfl rfl) rfl ?_)
      refine ops_val (yld_pick_t rfl rfl) rfl ?_
      refine ops_val (yld_assign rfl) rfl (ops_nil (fin_next rfl (run_ret ?_)))
      exact ret1 Tryz.results63 () (get_bool rfl (by simp [plainS, *] <;> omega)) (.refl _) (fun _ _ _ => trivial)
  · skip
    replace hr1 := of_decide_eq_true hr1
    refine run_cond_t rfl (run_seq (run_region (ops_val (yld_assign rfl) rfl (ops_nil (fin_next rfl (run_ret ?_))))))
    exact ret1 Tryz.results63 () (get_bool rfl (by simp [plainS, *] <;> omega)) (.refl _) (fun _ _ _ => trivial)

theorem isPlain_c (s : Str) : Fn0 Tryz.prog 63 #[str s] (.bool (plainS s)) := by
  cases hk : ixS 58 s with
  | none => exact isPlain_none s hk
  | some k => exact isPlain_some s k hk (ixS_lt hk)

theorem checkName_c (s : Str) (hs : s.length ≤ 140737488351232) :
    Fn0 Tryz.prog 25 #[str s] (.int .i64 (if personS s then 0 else 20)) := by
  refine tri_of_body Tryz.func25 rfl rfl Tryz.ntmps25 rfl fun v0 => ?_
  refine run_seq (run_region (ops_val (yld_assign rfl) rfl (ops_nil (fin_next rfl (run_seq (run_seq (run_region ?_)))))))
  refine ops_val (yld_move rfl) rfl (ops_callB (isPlain_c _) rfl (.refl _) (fun _ _ _ => trivial) rfl fun r1 hr1 => ?_)
  refine ops_val (yld_move rfl) rfl ?_
  cases r1
  · skip
    refine ops_yes rfl rfl (ops_val (yld_move rfl) rfl (ops_yes rfl rfl (ops_callB (isReserved_c _ hs) rfl (.refl _) (fun _ _ _ => trivial) rfl fun r2 hr2 => ?_)))
    refine ops_val (yld_pick_f rfl rfl) rfl ?_
    refine ops_nil (fin_next rfl ?_)
    cases r2
    · skip
      refine run_cond_f rfl (run_skip (fin_next rfl (run_seq (run_region (ops_val (yld_assign rfl) rfl (ops_nil (fin_next rfl ?_)))))))
      refine run_ret ?_
      exact ret1 Tryz.results25 () (get_int rfl (by simp [personS, *])) (.refl _) (fun _ _ _ => trivial)
    · skip
      refine run_cond_t rfl (run_seq (run_region (ops_val (yld_assign rfl) rfl (ops_nil (fin_next rfl (run_ret ?_))))))
      exact ret1 Tryz.results25 () (get_int rfl (by simp [personS, *])) (.refl _) (fun _ _ _ => trivial)
  · skip
    refine ops_no rfl rfl rfl rfl (ops_no rfl rfl rfl rfl (ops_val (yld_pick_t rfl rfl) rfl ?_))
    refine ops_nil (fin_next rfl (run_cond_t rfl (run_seq (run_region (ops_val (yld_assign rfl) rfl (ops_nil (fin_next rfl ?_)))))))
    refine run_ret ?_
    exact ret1 Tryz.results25 () (get_int rfl (by simp [personS, *])) (.refl _) (fun _ _ _ => trivial)

theorem isName_c (s : Str) (hs : s.length ≤ 140737488351232) :
    Fn0 Tryz.prog 73 #[str s] (.bool (personS s)) := by
  refine tri_of_body Tryz.func73 rfl rfl Tryz.ntmps73 rfl fun v0 => ?_
  refine run_seq (run_region (ops_val (yld_assign rfl) rfl (ops_nil (fin_next rfl (run_seq (run_region (ops_val (yld_move rfl) rfl ?_)))))))
  refine ops_call (checkName_c s hs) rfl (.refl _) (fun _ _ _ => trivial) rfl fun _ => ?_
  refine ops_valB (yld_eql rfl rfl) rfl fun r1 hr1 => ?_
  refine ops_val (yld_assign rfl) rfl (ops_nil (fin_next rfl (run_ret ?_)))
  exact ret1 Tryz.results73 () (get_bool rfl (by subst_vars; cases personS s <;> rfl)) (.refl _) (fun _ _ _ => trivial)

end Go.Proofs.YtoafjmalfclpoaaGreatDoor

/-
  My own contracts.
-/
namespace Go.Proofs.YtoafjmalfclpoaaGreatDoor
open Go Go.Sx Go.Proofs
set_option linter.unusedVariables false
attribute [local irreducible] Code.wp wpList wpAnyH

open Go.Vs
theorem fits_c : ∀ (m : Nat) (c : Con), c.sz ≤ m → c.ok → ∀ (d n bs : Nat), d ≤ 9 → n ≤ 64 → ∀ r, c.fits d n = r →
  Tri Tryz.prog 86 #[c.val, .int .i64 (d : Int), .pointer (some ⟨bs, 0, none⟩)] [(bs, .cells #[.int .i64 (n : Int)] 3 (0, 0))] [c.memF] (fun _ : Unit => .bool r.1) (fun _ => [(bs, .cells #[.int .i64 (r.2 : Int)] 3 (0, 0))]) (fun _ => []) := by
 intro m
 induction m with
 | zero => intro c h; have := c.sz_pos; omega
 | succ m ih =>
  intro c hm hok d n bs hd hn r hr
  obtain ⟨k, nm, lo, hi, ad, cap, ps⟩ := c
  have hlen := Con.ok_len hok
  simp only [Con.parts, Con.cap] at hlen
  refine tri_of_body Tryz.func86 rfl rfl Tryz.ntmps86 rfl fun v0 => ?_
  refine run_seq (run_region (ops_box rfl rfl fun b1 => ?_))
  refine ops_val (yld_assign rfl) rfl (ops_nil (fin_next rfl (run_seq (run_region (ops_val (yld_move rfl) rfl (ops_val (yld_nilck rfl) rfl ?_))))))
  refine ops_val (yld_load 1 Tryz.isAgg3 rfl rfl rfl) rfl ?_
  refine ops_val (yld_arith rfl rfl rfl (wrap64 (by omega) (by omega))) rfl ?_
  refine ops_val (yld_nilck rfl) rfl ?_
  refine ops_store 1 Tryz.sizeOf3 rfl rfl rfl rfl rfl rfl ?_
  refine ops_nil (fin_next rfl (run_seq (run_seq (run_region (ops_val (yld_move rfl) rfl (ops_valB (yld_gtr rfl rfl) rfl fun r1 hr1 => ?_))))))
  refine ops_val (yld_move rfl) rfl ?_
  cases r1
  ·
   replace hr1 := of_decide_eq_false hr1
   try dsimp only [Con.kind, Con.parts, Con.name, Con.lo, Con.hi, Con.cap, Con.ad] at hr1
   refine ops_yes rfl rfl (ops_val (yld_move rfl) rfl (ops_yes rfl rfl (ops_val (yld_nilck rfl) rfl ?_)))
   refine ops_yes rfl rfl (ops_val (yld_load 1 Tryz.isAgg3 rfl rfl rfl) rfl ?_)
   refine ops_yes rfl rfl (ops_valB (yld_gtr rfl rfl) rfl fun r2 hr2 => ?_)
   refine ops_val (yld_pick_f rfl rfl) rfl ?_
   refine ops_nil (fin_next rfl ?_)
   cases r2
   ·
    replace hr2 := of_decide_eq_false hr2
    try dsimp only [Con.kind, Con.parts, Con.name, Con.lo, Con.hi, Con.cap, Con.ad] at hr2
    have hc0 : ¬ (8 < d ∨ 64 < n + 1) := by omega
    refine run_cond_f rfl (run_skip (fin_next rfl (run_seq (run_seq (run_region (ops_val (yld_field Tryz.runUnderlying38 rfl rfl rfl Tryz.sizeOf36) rfl ?_))))))
    refine ops_val (yld_load 0 Tryz.isAgg36 rfl rfl rfl) rfl ?_
    refine ops_val (yld_lenS Tryz.runUnderlying36 rfl) rfl ?_
    refine ops_val (yld_move rfl) rfl (ops_nil (fin_next rfl (run_block (ok_fr [(1, .int .i64 (d : Int)), (2, .pointer (some ⟨bs, 0, none⟩)), (23, .slice ad ps.length cap), (24, .int .i64 (ps.length : Int)), (25, .int .i64 ((0 : Nat) : Int))] ⟨rfl, rfl, rfl, rfl, rfl, trivial⟩ ?_))))
    refine run_loop (ι := {q : Nat × Nat // q.1 ≤ ps.length ∧ Con.fits.fitss (ps.take q.1) (d + 1) (n + 1) = (true, q.2) ∧ q.2 ≤ 64}) (fun i => [(1, .int .i64 (d : Int)), (2, .pointer (some ⟨bs, 0, none⟩)), (23, .slice ad ps.length cap), (24, .int .i64 (ps.length : Int)), (25, .int .i64 (i.1.1 : Int))]) (fun i => [_, (bs, .cells #[.int .i64 (i.1.2 : Int)] 3 (0, 0))]) (fun _ => _) (fun i => ps.length - i.1.1) ⟨(0, n + 1), by simp [Con.fits.fitss]; omega⟩ ?_
    rintro ⟨⟨i, m1⟩, hk⟩
    refine ok_fr [(1, .int .i64 (d : Int)), (2, .pointer (some ⟨bs, 0, none⟩)), (23, .slice ad ps.length cap), (24, .int .i64 (ps.length : Int)), (25, .int .i64 (i : Int))] ⟨rfl, rfl, rfl, rfl, rfl, trivial⟩ ?_
    refine run_seq (run_region (ops_valB (yld_lss rfl rfl) rfl fun r3 hr3 => ?_))
    refine ops_nil (fin_next rfl (run_seq ?_))
    cases r3
    ·
     replace hr3 := of_decide_eq_false hr3
     try dsimp only [Con.kind, Con.parts, Con.name, Con.lo, Con.hi, Con.cap, Con.ad] at hr3
     refine run_cond_f rfl (run_exit rfl (fin_next rfl (run_seq (run_region (ops_val (yld_assign rfl) rfl (ops_nil (fin_next rfl ?_)))))))
     refine run_ret ?_
     obtain rfl : r = (true, m1) := by rw [← hr]; exact Con.fits_yes hc0 (by omega) hk.2.1
     exact ret1 Tryz.results86 () rfl (perm_at (i := 1) rfl) (fun _ _ _ => trivial)
    ·
     replace hr3 := of_decide_eq_true hr3
     try dsimp only [Con.kind, Con.parts, Con.name, Con.lo, Con.hi, Con.cap, Con.ad] at hr3
     have hlt : i < ps.length := by omega
     obtain ⟨p, hp⟩ : ∃ p, ps[i]? = some p := ⟨_, List.getElem?_eq_getElem hlt⟩
     have hpm : p ∈ ps := List.mem_of_getElem? hp
     refine run_cond_t rfl (run_skip (fin_next rfl (run_seq (run_block (run_seq (run_region (ops_val (yld_indexR Tryz.runUnderlying36 Tryz.sizeOf38 rfl rfl (fun v _ h => Con.row_addr (c := .mk k nm lo hi ad cap ps) h.1 hp) (by omega) (by omega)) rfl ?_)))))))
     refine ops_val (yld_loadRS (us := p.cells) Tryz.isAgg38 Tryz.sizeOf38 rfl (fun v _ h => ((Con.mem_iff (.mk k nm lo hi ad cap ps) v).1 h.1).1) p.cells_len (Con.part_cells (c := .mk k nm lo hi ad cap ps) (i := i) hp)) rfl ?_
     refine ops_alloc Tryz.zeroValue38 rfl fun b2 => ?_
     refine ops_storeC 0 Tryz.sizeOf38 rfl rfl rfl rfl ?_
     refine ops_nil (fin_next rfl (run_seq (run_region (ops_val (yld_loadC 0 Tryz.isAgg38 Tryz.sizeOf38 rfl rfl) rfl ?_))))
     refine ops_val (yld_move rfl) rfl (ops_val (yld_arith rfl rfl rfl (wrap64 (by omega) (by omega))) rfl ?_)
     refine ops_val (yld_move rfl) rfl (ops_call1B 2 (ih p (by have := Con.sz_part (c := .mk k nm lo hi ad cap ps) hpm; omega) (Con.ok_part (c := .mk k nm lo hi ad cap ps) hok hpm) (d + 1) m1 bs (by omega) hk.2.2 _ rfl) rfl rfl (fun v _ h => ⟨Con.mem_part (c := .mk k nm lo hi ad cap ps) h.1 hpm, trivial⟩) rfl fun r4 hr4 => ?_)
     refine ops_val (yld_not rfl) rfl ?_
     refine ops_nil (fin_next rfl ?_)
     cases r4
     ·
      try dsimp only [Con.kind, Con.parts, Con.name, Con.lo, Con.hi, Con.cap, Con.ad] at hr4
      refine run_cond_t rfl (run_seq (run_region (ops_val (yld_assign rfl) rfl (ops_nil (fin_next rfl (run_ret ?_))))))
      obtain rfl : r = (false, (p.fits (d + 1) m1).2) := by rw [← hr]; exact Con.fits_no hc0 hp hk.2.1 (by assumption)
      exact ret1 Tryz.results86 () rfl (perm_at (i := 2) rfl) (fun _ _ _ => trivial)
     ·
      try dsimp only [Con.kind, Con.parts, Con.name, Con.lo, Con.hi, Con.cap, Con.ad] at hr4
      refine run_cond_f rfl (run_skip (fin_next rfl (run_region (ops_val (yld_arith rfl rfl rfl (wrap64 (by omega) (by omega))) rfl ?_))))
      refine ops_val (yld_move rfl) rfl (ops_nil (fin_inv rfl ?_))
      exact ok_again ⟨(i + 1, (p.fits (d + 1) m1).2), hlt, Con.fitss_step hp hk.2.1 (by assumption)⟩ (by simp; omega) ⟨rfl, rfl, rfl, rfl, rfl, trivial⟩ (@List.perm_append_comm _ [_] _) (fun _ _ h => h)
   ·
    replace hr2 := of_decide_eq_true hr2
    try dsimp only [Con.kind, Con.parts, Con.name, Con.lo, Con.hi, Con.cap, Con.ad] at hr2
    refine run_cond_t rfl (run_seq (run_region (ops_val (yld_assign rfl) rfl (ops_nil (fin_next rfl (run_ret ?_))))))
    obtain rfl : r = (false, n + 1) := by rw [← hr, Con.fits_eq]; simp <;> omega
    exact ret1 Tryz.results86 () rfl (perm_at (i := 1) rfl) (fun _ _ _ => trivial)
  ·
   replace hr1 := of_decide_eq_true hr1
   try dsimp only [Con.kind, Con.parts, Con.name, Con.lo, Con.hi, Con.cap, Con.ad] at hr1
   refine ops_no rfl rfl rfl rfl (ops_no rfl rfl rfl rfl (ops_no rfl rfl rfl rfl (ops_no rfl rfl rfl rfl (ops_val (yld_pick_t rfl rfl) rfl ?_))))
   refine ops_nil (fin_next rfl (run_cond_t rfl (run_seq (run_region (ops_val (yld_assign rfl) rfl (ops_nil (fin_next rfl ?_)))))))
   refine run_ret ?_
   obtain rfl : r = (false, n + 1) := by rw [← hr, Con.fits_eq]; simp <;> omega
   exact ret1 Tryz.results86 () rfl (perm_at (i := 1) rfl) (fun _ _ _ => trivial)

end Go.Proofs.YtoafjmalfclpoaaGreatDoor

/-
  My own contracts.
-/
namespace Go.Proofs.YtoafjmalfclpoaaGreatDoor
open Go Go.Sx Go.Proofs
set_option linter.unusedVariables false
attribute [local irreducible] Code.wp wpList wpAnyH

open Go.Vs
def powAt (v : Vw) : Prop := v.im 4 ∧ ∃ T fz, v.w.heap[4]? = some (.cells (Lib.pow10Tab.map fun z => Value.int .u64 z).toArray T fz)
theorem powAt_mono {v v' : Vw} (h : v.le v') (hp : powAt v) : powAt v' := by
  obtain ⟨h1, T, fz, h2⟩ := hp
  exact ⟨h.imUp _ h1, T, fz, by rw [h.block _ h1]; exact h2⟩
theorem powAt_tab {v : Vw} (hp : powAt v) : Lib.TabIs Tryz.prog v.w "internal/strconv.uint64pow10" .u64 Lib.pow10Tab := by
  obtain ⟨h1, T, fz, h2⟩ := hp
  have hg : Tryz.prog.globalNamed "internal/strconv.uint64pow10" = some 4 := by kernel_rfl
  simp only [Lib.TabIs, World.var?, hg, Option.bind_some, h2]
/-- the tables lie in memory as the program's text lays them -/
def tabs : Fct where
  p := fun v => RowAt v (some ⟨2, 0, none⟩) (needL.flatMap needC) ∧ RowAt v (some ⟨0, 0, none⟩) (useL.flatMap Use.cells) ∧ RowAt v (some ⟨1, 0, none⟩) (nuseL.flatMap NUse.cells) ∧ powAt v
  mono := fun v v' h hp => ⟨(rowF _ _).mono v v' h hp.1, (rowF _ _).mono v v' h hp.2.1, (rowF _ _).mono v v' h hp.2.2.1, powAt_mono h hp.2.2.2⟩
/-- the table of the kinds of pieces alone -/
def tabN : Fct := rowF (some ⟨1, 0, none⟩) (nuseL.flatMap NUse.cells)

end Go.Proofs.YtoafjmalfclpoaaGreatDoor

/-
  My own contracts.
-/
namespace Go.Proofs.YtoafjmalfclpoaaGreatDoor
open Go Go.Sx Go.Proofs
set_option linter.unusedVariables false
attribute [local irreducible] Code.wp wpList wpAnyH

open Go.Vs
theorem checkFields_c (c : Con) (hok : c.ok) : Tri Tryz.prog 88 #[c.val] [] [tabs] (fun _ : Unit => .int .i64 c.fieldErr) (fun _ => []) (fun _ => []) := by
 obtain ⟨k, nm, lo, hi, ad, cap, ps⟩ := c
 have hlen := Con.ok_len hok
 simp only [Con.parts, Con.cap] at hlen
 refine tri_of_body Tryz.func88 rfl rfl Tryz.ntmps88 rfl fun v0 => ?_
 refine run_seq (run_region (ops_box rfl rfl fun b1 => ?_))
 refine ops_val (yld_assign rfl) rfl (ops_nil (fin_next rfl (run_seq (run_seq (run_region (ops_val (yld_field Tryz.runUnderlying38 rfl rfl rfl Tryz.sizeOf3) rfl ?_))))))
 refine ops_val (yld_load 0 Tryz.isAgg3 rfl rfl rfl) rfl ?_
 refine ops_valB (yld_lss rfl rfl) rfl fun r1 hr1 => ?_
 refine ops_val (yld_move rfl) rfl ?_
 refine ops_cut 4 ((decide (k < 1)) || (decide (7 < k))) (fun r => [(0, .agg #[.int .i64 k, str nm, .int .i64 lo, .int .i64 hi, .slice ad ps.length cap]), (1, .pointer (some ⟨b1, 0, none⟩)), (2, .int .i64 0), (11, .bool r)]) ?_ fun r2 hr2 => ?_
 ·
  cases r1
  ·
   have qr2 := hr1
   replace hr1 := of_decide_eq_false hr1
   try dsimp only [Con.kind, Con.parts, Con.name, Con.lo, Con.hi, Con.cap, Con.ad] at hr1
   refine ops_yes rfl rfl (ops_val (yld_field Tryz.runUnderlying38 rfl rfl rfl Tryz.sizeOf3) rfl ?_)
   refine ops_yes rfl rfl (ops_val (yld_load 0 Tryz.isAgg3 rfl rfl rfl) rfl ?_)
   refine ops_yes rfl rfl (ops_valB (yld_gtr rfl rfl) rfl fun r3 hr3 => ?_)
   refine ops_val (yld_pick_f rfl rfl) rfl ?_
   refine ops_nil (fin_inv rfl ?_)
   exact met ⟨rfl, rfl, rfl, (get_bool rfl (jof qr2 hr3)), trivial⟩
  ·
   have qr2 := hr1
   replace hr1 := of_decide_eq_true hr1
   try dsimp only [Con.kind, Con.parts, Con.name, Con.lo, Con.hi, Con.cap, Con.ad] at hr1
   refine ops_no rfl rfl rfl rfl (ops_no rfl rfl rfl rfl (ops_no rfl rfl rfl rfl (ops_val (yld_pick_t rfl rfl) rfl ?_)))
   refine ops_nil (fin_inv rfl ?_)
   exact met ⟨rfl, rfl, rfl, (get_bool rfl (jot qr2)), trivial⟩
 ·
  refine ops_nil (fin_next rfl ?_)
  cases r2
  ·
   simp at hr2
   try dsimp only [Con.kind, Con.parts, Con.name, Con.lo, Con.hi, Con.cap, Con.ad] at hr2
   obtain ⟨x, hx⟩ : ∃ x, needL[k.toNat]? = some x := ⟨_, List.getElem?_eq_getElem (show k.toNat < 8 by omega)⟩
   have hnd : nd k = x := by simp [nd, hx]
   obtain ⟨x1, x2, x3, xb⟩ := x
   refine run_cond_f rfl (run_skip (fin_next rfl (run_seq (run_region (ops_val (yld_field Tryz.runUnderlying38 rfl rfl rfl Tryz.sizeOf3) rfl ?_)))))
   refine ops_val (yld_load 0 Tryz.isAgg3 rfl rfl rfl) rfl ?_
   refine ops_val (yld_indexA Tryz.runUnderlying160 Tryz.sizeOf159 rfl rfl (by show (0 : Int) ≤ k; omega) (by show k < (8 : Int); omega)) rfl ?_
   refine ops_val (yld_loadRS (ad := some ⟨2, 0, none⟩) (k := k.toNat * 4) (us := needC (x1, x2, x3, xb)) Tryz.isAgg159 Tryz.sizeOf159 rfl (fun v _ h => h.1.1) (needC_len _) (fun j y hj => by rw [fm_get needC 4 needC_len needL k.toNat j _ hx (by have := (List.getElem?_eq_some_iff.1 hj).1; rwa [needC_len] at this)]; exact hj)) rfl ?_
   refine ops_alloc Tryz.zeroValue159 rfl fun b2 => ?_
   refine ops_store 0 Tryz.sizeOf159 rfl rfl rfl rfl rfl rfl ?_
   refine ops_nil (fin_next rfl (run_seq (run_seq (run_region (ops_val (yld_field Tryz.runUnderlying38 rfl rfl rfl Tryz.sizeOf36) rfl ?_)))))
   refine ops_val (yld_load 1 Tryz.isAgg36 rfl rfl rfl) rfl ?_
   refine ops_val (yld_lenS Tryz.runUnderlying36 rfl) rfl ?_
   refine ops_val (yld_field Tryz.runUnderlying159 rfl rfl rfl Tryz.sizeOf3) rfl ?_
   refine ops_val (yld_load 0 Tryz.isAgg3 rfl rfl rfl) rfl ?_
   refine ops_valB (yld_lss rfl rfl) rfl fun r4 hr4 => ?_
   refine ops_val (yld_move rfl) rfl ?_
   refine ops_cut 7 ((decide ((ps.length : Int) < x2)) || (decide (x3 < (ps.length : Int)))) (fun r => [(0, .agg #[.int .i64 k, str nm, .int .i64 lo, .int .i64 hi, .slice ad ps.length cap]), (1, .pointer (some ⟨b1, 0, none⟩)), (2, .int .i64 0), (11, .bool false), (12, .pointer (some ⟨b1, 0, none⟩)), (13, .int .i64 k), (14, .pointer (some (rad (some ⟨2, 0, none⟩) (k.toNat * 4)))), (15, .agg #[.int .i64 x1, .int .i64 x2, .int .i64 x3, .bool xb]), (3, .pointer (some ⟨b2, 0, none⟩)), (29, .bool r)]) ?_ fun r5 hr5 => ?_
   ·
    cases r4
    ·
     have qr5 := hr4
     replace hr4 := of_decide_eq_false hr4
     try dsimp only [Con.kind, Con.parts, Con.name, Con.lo, Con.hi, Con.cap, Con.ad] at hr4
     refine ops_yes rfl rfl (ops_val (yld_field Tryz.runUnderlying38 rfl rfl rfl Tryz.sizeOf36) rfl ?_)
     refine ops_yes rfl rfl (ops_val (yld_load 1 Tryz.isAgg36 rfl rfl rfl) rfl ?_)
     refine ops_yes rfl rfl (ops_val (yld_lenS Tryz.runUnderlying36 rfl) rfl ?_)
     refine ops_yes rfl rfl (ops_val (yld_field Tryz.runUnderlying159 rfl rfl rfl Tryz.sizeOf3) rfl ?_)
     refine ops_yes rfl rfl (ops_val (yld_load 0 Tryz.isAgg3 rfl rfl rfl) rfl ?_)
     refine ops_yes rfl rfl (ops_valB (yld_gtr rfl rfl) rfl fun r6 hr6 => ?_)
     refine ops_val (yld_pick_f rfl rfl) rfl ?_
     refine ops_nil (fin_inv rfl ?_)
     exact met ⟨rfl, rfl, rfl, rfl, rfl, rfl, rfl, rfl, rfl, (get_bool rfl (jof qr5 hr6)), trivial⟩
    ·
     have qr5 := hr4
     replace hr4 := of_decide_eq_true hr4
     try dsimp only [Con.kind, Con.parts, Con.name, Con.lo, Con.hi, Con.cap, Con.ad] at hr4
     refine ops_no rfl rfl rfl rfl (ops_no rfl rfl rfl rfl (ops_no rfl rfl rfl rfl (ops_no rfl rfl rfl rfl (ops_no rfl rfl rfl rfl (ops_no rfl rfl rfl rfl (ops_val (yld_pick_t rfl rfl) rfl ?_))))))
     refine ops_nil (fin_inv rfl ?_)
     exact met ⟨rfl, rfl, rfl, rfl, rfl, rfl, rfl, rfl, rfl, (get_bool rfl (jot qr5)), trivial⟩
   ·
    refine ops_val (yld_move rfl) rfl ?_
    refine ops_cut 9 ((((decide ((ps.length : Int) < x2)) || (decide (x3 < (ps.length : Int))))) || (((x1 == 0) && (nm != [])))) (fun r => [(0, .agg #[.int .i64 k, str nm, .int .i64 lo, .int .i64 hi, .slice ad ps.length cap]), (1, .pointer (some ⟨b1, 0, none⟩)), (2, .int .i64 0), (11, .bool false), (12, .pointer (some ⟨b1, 0, none⟩)), (13, .int .i64 k), (14, .pointer (some (rad (some ⟨2, 0, none⟩) (k.toNat * 4)))), (15, .agg #[.int .i64 x1, .int .i64 x2, .int .i64 x3, .bool xb]), (3, .pointer (some ⟨b2, 0, none⟩)), (39, .bool r)]) ?_ fun r7 hr7 => ?_
    ·
     cases r5
     ·
      have qr7 := hr5
      simp at hr5
      try dsimp only [Con.kind, Con.parts, Con.name, Con.lo, Con.hi, Con.cap, Con.ad] at hr5
      refine ops_yes rfl rfl (ops_val (yld_field Tryz.runUnderlying159 rfl rfl rfl Tryz.sizeOf3) rfl ?_)
      refine ops_yes rfl rfl (ops_val (yld_load 0 Tryz.isAgg3 rfl rfl rfl) rfl ?_)
      refine ops_yes rfl rfl (ops_valB (yld_eql rfl rfl) rfl fun r8 hr8 => ?_)
      refine ops_yes rfl rfl (ops_val (yld_move rfl) rfl ?_)
      refine ops_cut 4 ((x1 == 0) && (nm != [])) (fun r => [(0, .agg #[.int .i64 k, str nm, .int .i64 lo, .int .i64 hi, .slice ad ps.length cap]), (1, .pointer (some ⟨b1, 0, none⟩)), (2, .int .i64 0), (11, .bool false), (12, .pointer (some ⟨b1, 0, none⟩)), (13, .int .i64 k), (14, .pointer (some (rad (some ⟨2, 0, none⟩) (k.toNat * 4)))), (15, .agg #[.int .i64 x1, .int .i64 x2, .int .i64 x3, .bool xb]), (3, .pointer (some ⟨b2, 0, none⟩)), (30, .bool false), (38, .bool r)]) ?_ fun r9 hr9 => ?_
      ·
       cases r8
       ·
        have qr9 := hr8
        replace hr8 := ne_of_beq_false hr8
        try dsimp only [Con.kind, Con.parts, Con.name, Con.lo, Con.hi, Con.cap, Con.ad] at hr8
        refine ops_no rfl rfl rfl rfl (ops_no rfl rfl rfl rfl (ops_no rfl rfl rfl rfl (ops_yes rfl rfl (ops_val (yld_pick_f rfl rfl) rfl ?_))))
        refine ops_nil (fin_inv rfl ?_)
        exact met ⟨rfl, rfl, rfl, rfl, rfl, rfl, rfl, rfl, rfl, rfl, (get_bool rfl (jaf qr9)), trivial⟩
       ·
        have qr9 := hr8
        replace hr8 := eq_of_beq hr8
        try dsimp only [Con.kind, Con.parts, Con.name, Con.lo, Con.hi, Con.cap, Con.ad] at hr8
        refine ops_yes rfl rfl (ops_val (yld_field Tryz.runUnderlying38 rfl rfl rfl Tryz.sizeOf9) rfl ?_)
        refine ops_yes rfl rfl (ops_val (yld_load 1 Tryz.isAgg9 rfl rfl rfl) rfl ?_)
        refine ops_yes rfl rfl (ops_valB (yld_sneq rfl rfl) rfl fun r10 hr10 => ?_)
        refine ops_yes rfl rfl (ops_val (yld_pick_t rfl rfl) rfl ?_)
        refine ops_nil (fin_inv rfl ?_)
        exact met ⟨rfl, rfl, rfl, rfl, rfl, rfl, rfl, rfl, rfl, rfl, (get_bool rfl (jat qr9 hr10)), trivial⟩
      ·
       refine ops_val (yld_pick_f rfl rfl) rfl ?_
       refine ops_nil (fin_inv rfl ?_)
       exact met ⟨rfl, rfl, rfl, rfl, rfl, rfl, rfl, rfl, rfl, (get_bool rfl (jof qr7 hr9)), trivial⟩
     ·
      have qr7 := hr5
      simp at hr5
      try dsimp only [Con.kind, Con.parts, Con.name, Con.lo, Con.hi, Con.cap, Con.ad] at hr5
      refine ops_no rfl rfl rfl rfl (ops_no rfl rfl rfl rfl (ops_no rfl rfl rfl rfl (ops_no rfl rfl rfl rfl (ops_no rfl rfl rfl rfl (ops_no rfl rfl rfl rfl (ops_no rfl rfl rfl rfl (ops_no rfl rfl rfl rfl ?_)))))))
      refine ops_val (yld_pick_t rfl rfl) rfl ?_
      refine ops_nil (fin_inv rfl ?_)
      exact met ⟨rfl, rfl, rfl, rfl, rfl, rfl, rfl, rfl, rfl, (get_bool rfl (jot qr7)), trivial⟩
    ·
     refine ops_nil (fin_next rfl ?_)
     cases r7
     ·
      simp at hr7
      try dsimp only [Con.kind, Con.parts, Con.name, Con.lo, Con.hi, Con.cap, Con.ad] at hr7
      refine run_cond_f rfl (run_skip (fin_next rfl (run_seq (run_seq (run_region (ops_val (yld_field Tryz.runUnderlying159 rfl rfl rfl Tryz.sizeOf4) rfl ?_))))))
      refine ops_val (yld_load 0 Tryz.isAgg4 rfl rfl rfl) rfl ?_
      refine ops_nil (fin_next rfl ?_)
      cases xb
      ·
       try dsimp only [Con.kind, Con.parts, Con.name, Con.lo, Con.hi, Con.cap, Con.ad] at hxb
       refine run_cond_f rfl (run_seq (run_region (ops_val (yld_field Tryz.runUnderlying38 rfl rfl rfl Tryz.sizeOf3) rfl ?_)))
       refine ops_val (yld_load 1 Tryz.isAgg3 rfl rfl rfl) rfl ?_
       refine ops_valB (yld_neq rfl rfl) rfl fun r11 hr11 => ?_
       refine ops_val (yld_move rfl) rfl ?_
       refine ops_cut 4 ((lo != 0) || (hi != 0)) (fun r => [(0, .agg #[.int .i64 k, str nm, .int .i64 lo, .int .i64 hi, .slice ad ps.length cap]), (1, .pointer (some ⟨b1, 0, none⟩)), (2, .int .i64 0), (11, .bool false), (12, .pointer (some ⟨b1, 0, none⟩)), (13, .int .i64 k), (14, .pointer (some (rad (some ⟨2, 0, none⟩) (k.toNat * 4)))), (15, .agg #[.int .i64 x1, .int .i64 x2, .int .i64 x3, .bool false]), (3, .pointer (some ⟨b2, 0, none⟩)), (39, .bool false), (40, .pointer (some ⟨b2, 3, none⟩)), (41, .bool false), (64, .bool r)]) ?_ fun r12 hr12 => ?_
       ·
        cases r11
        ·
         have qr12 := hr11
         replace hr11 := eq_of_bne hr11
         try dsimp only [Con.kind, Con.parts, Con.name, Con.lo, Con.hi, Con.cap, Con.ad] at hr11
         refine ops_yes rfl rfl (ops_val (yld_field Tryz.runUnderlying38 rfl rfl rfl Tryz.sizeOf3) rfl ?_)
         refine ops_yes rfl rfl (ops_val (yld_load 1 Tryz.isAgg3 rfl rfl rfl) rfl ?_)
         refine ops_yes rfl rfl (ops_valB (yld_neq rfl rfl) rfl fun r13 hr13 => ?_)
         refine ops_val (yld_pick_f rfl rfl) rfl ?_
         refine ops_nil (fin_inv rfl ?_)
         exact met ⟨rfl, rfl, rfl, rfl, rfl, rfl, rfl, rfl, rfl, rfl, rfl, rfl, (get_bool rfl (jof qr12 hr13)), trivial⟩
        ·
         have qr12 := hr11
         replace hr11 := ne_of_bne hr11
         try dsimp only [Con.kind, Con.parts, Con.name, Con.lo, Con.hi, Con.cap, Con.ad] at hr11
         refine ops_no rfl rfl rfl rfl (ops_no rfl rfl rfl rfl (ops_no rfl rfl rfl rfl (ops_val (yld_pick_t rfl rfl) rfl ?_)))
         refine ops_nil (fin_inv rfl ?_)
         exact met ⟨rfl, rfl, rfl, rfl, rfl, rfl, rfl, rfl, rfl, rfl, rfl, rfl, (get_bool rfl (jot qr12)), trivial⟩
       ·
        refine ops_nil (fin_next rfl ?_)
        cases r12
        ·
         simp at hr12
         try dsimp only [Con.kind, Con.parts, Con.name, Con.lo, Con.hi, Con.cap, Con.ad] at hr12
         refine run_cond_f rfl (run_skip (fin_next rfl (run_seq (run_seq (run_region (ops_val (yld_field Tryz.runUnderlying159 rfl rfl rfl Tryz.sizeOf3) rfl ?_))))))
         refine ops_val (yld_load 0 Tryz.isAgg3 rfl rfl rfl) rfl ?_
         refine ops_valB (yld_eql rfl rfl) rfl fun r14 hr14 => ?_
         refine ops_val (yld_move rfl) rfl ?_
         refine ops_cut 4 ((x1 == 0) || (plainS nm)) (fun r => [(0, .agg #[.int .i64 k, str nm, .int .i64 lo, .int .i64 hi, .slice ad ps.length cap]), (1, .pointer (some ⟨b1, 0, none⟩)), (2, .int .i64 0), (11, .bool false), (12, .pointer (some ⟨b1, 0, none⟩)), (13, .int .i64 k), (14, .pointer (some (rad (some ⟨2, 0, none⟩) (k.toNat * 4)))), (15, .agg #[.int .i64 x1, .int .i64 x2, .int .i64 x3, .bool false]), (3, .pointer (some ⟨b2, 0, none⟩)), (39, .bool false), (40, .pointer (some ⟨b2, 3, none⟩)), (41, .bool false), (64, .bool false), (72, .bool r)]) ?_ fun r15 hr15 => ?_
         ·
          cases r14
          ·
           have qr15 := hr14
           replace hr14 := ne_of_beq_false hr14
           try dsimp only [Con.kind, Con.parts, Con.name, Con.lo, Con.hi, Con.cap, Con.ad] at hr14
           refine ops_yes rfl rfl (ops_val (yld_field Tryz.runUnderlying38 rfl rfl rfl Tryz.sizeOf9) rfl ?_)
           refine ops_yes rfl rfl (ops_val (yld_load 1 Tryz.isAgg9 rfl rfl rfl) rfl ?_)
           refine ops_yes rfl rfl (ops_callB (isPlain_c nm) rfl (.refl _) (fun _ _ _ => trivial) rfl fun r16 hr16 => ?_)
           refine ops_val (yld_pick_f rfl rfl) rfl ?_
           refine ops_nil (fin_inv rfl ?_)
           exact met ⟨rfl, rfl, rfl, rfl, rfl, rfl, rfl, rfl, rfl, rfl, rfl, rfl, rfl, (get_bool rfl (jof qr15 hr16)), trivial⟩
          ·
           have qr15 := hr14
           replace hr14 := eq_of_beq hr14
           try dsimp only [Con.kind, Con.parts, Con.name, Con.lo, Con.hi, Con.cap, Con.ad] at hr14
           refine ops_no rfl rfl rfl rfl (ops_no rfl rfl rfl rfl (ops_no rfl rfl rfl rfl (ops_val (yld_pick_t rfl rfl) rfl ?_)))
           refine ops_nil (fin_inv rfl ?_)
           exact met ⟨rfl, rfl, rfl, rfl, rfl, rfl, rfl, rfl, rfl, rfl, rfl, rfl, rfl, (get_bool rfl (jot qr15)), trivial⟩
         ·
          refine ops_val (yld_move rfl) rfl ?_
          refine ops_cut 9 ((((x1 == 0) || (plainS nm))) || (((x1 == 2) && (reservedS nm)))) (fun r => [(0, .agg #[.int .i64 k, str nm, .int .i64 lo, .int .i64 hi, .slice ad ps.length cap]), (1, .pointer (some ⟨b1, 0, none⟩)), (2, .int .i64 0), (11, .bool false), (12, .pointer (some ⟨b1, 0, none⟩)), (13, .int .i64 k), (14, .pointer (some (rad (some ⟨2, 0, none⟩) (k.toNat * 4)))), (15, .agg #[.int .i64 x1, .int .i64 x2, .int .i64 x3, .bool false]), (3, .pointer (some ⟨b2, 0, none⟩)), (39, .bool false), (40, .pointer (some ⟨b2, 3, none⟩)), (41, .bool false), (64, .bool false), (82, .bool r)]) ?_ fun r17 hr17 => ?_
          ·
           cases r15
           ·
            have qr17 := hr15
            simp at hr15
            try dsimp only [Con.kind, Con.parts, Con.name, Con.lo, Con.hi, Con.cap, Con.ad] at hr15
            refine ops_yes rfl rfl (ops_val (yld_field Tryz.runUnderlying159 rfl rfl rfl Tryz.sizeOf3) rfl ?_)
            refine ops_yes rfl rfl (ops_val (yld_load 0 Tryz.isAgg3 rfl rfl rfl) rfl ?_)
            refine ops_yes rfl rfl (ops_valB (yld_eql rfl rfl) rfl fun r18 hr18 => ?_)
            refine ops_yes rfl rfl (ops_val (yld_move rfl) rfl ?_)
            refine ops_cut 4 ((x1 == 2) && (reservedS nm)) (fun r => [(0, .agg #[.int .i64 k, str nm, .int .i64 lo, .int .i64 hi, .slice ad ps.length cap]), (1, .pointer (some ⟨b1, 0, none⟩)), (2, .int .i64 0), (11, .bool false), (12, .pointer (some ⟨b1, 0, none⟩)), (13, .int .i64 k), (14, .pointer (some (rad (some ⟨2, 0, none⟩) (k.toNat * 4)))), (15, .agg #[.int .i64 x1, .int .i64 x2, .int .i64 x3, .bool false]), (3, .pointer (some ⟨b2, 0, none⟩)), (39, .bool false), (40, .pointer (some ⟨b2, 3, none⟩)), (41, .bool false), (64, .bool false), (73, .bool false), (81, .bool r)]) ?_ fun r19 hr19 => ?_
            ·
             cases r18
             ·
              have qr19 := hr18
              replace hr18 := ne_of_beq_false hr18
              try dsimp only [Con.kind, Con.parts, Con.name, Con.lo, Con.hi, Con.cap, Con.ad] at hr18
              refine ops_no rfl rfl rfl rfl (ops_no rfl rfl rfl rfl (ops_no rfl rfl rfl rfl (ops_yes rfl rfl (ops_val (yld_pick_f rfl rfl) rfl ?_))))
              refine ops_nil (fin_inv rfl ?_)
              exact met ⟨rfl, rfl, rfl, rfl, rfl, rfl, rfl, rfl, rfl, rfl, rfl, rfl, rfl, rfl, (get_bool rfl (jaf qr19)), trivial⟩
             ·
              have qr19 := hr18
              replace hr18 := eq_of_beq hr18
              try dsimp only [Con.kind, Con.parts, Con.name, Con.lo, Con.hi, Con.cap, Con.ad] at hr18
              refine ops_yes rfl rfl (ops_val (yld_field Tryz.runUnderlying38 rfl rfl rfl Tryz.sizeOf9) rfl ?_)
              refine ops_yes rfl rfl (ops_val (yld_load 1 Tryz.isAgg9 rfl rfl rfl) rfl ?_)
              refine ops_yes rfl rfl (ops_callB (isReserved_c nm (Con.ok_name hok)) rfl (.refl _) (fun _ _ _ => trivial) rfl fun r20 hr20 => ?_)
              refine ops_yes rfl rfl (ops_val (yld_pick_t rfl rfl) rfl ?_)
              refine ops_nil (fin_inv rfl ?_)
              exact met ⟨rfl, rfl, rfl, rfl, rfl, rfl, rfl, rfl, rfl, rfl, rfl, rfl, rfl, rfl, (get_bool rfl (jat qr19 hr20)), trivial⟩
            ·
             refine ops_val (yld_pick_f rfl rfl) rfl ?_
             refine ops_nil (fin_inv rfl ?_)
             exact met ⟨rfl, rfl, rfl, rfl, rfl, rfl, rfl, rfl, rfl, rfl, rfl, rfl, rfl, (get_bool rfl (jof qr17 hr19)), trivial⟩
           ·
            have qr17 := hr15
            simp at hr15
            try dsimp only [Con.kind, Con.parts, Con.name, Con.lo, Con.hi, Con.cap, Con.ad] at hr15
            refine ops_no rfl rfl rfl rfl (ops_no rfl rfl rfl rfl (ops_no rfl rfl rfl rfl (ops_no rfl rfl rfl rfl (ops_no rfl rfl rfl rfl (ops_no rfl rfl rfl rfl (ops_no rfl rfl rfl rfl (ops_no rfl rfl rfl rfl ?_)))))))
            refine ops_val (yld_pick_t rfl rfl) rfl ?_
            refine ops_nil (fin_inv rfl ?_)
            exact met ⟨rfl, rfl, rfl, rfl, rfl, rfl, rfl, rfl, rfl, rfl, rfl, rfl, rfl, (get_bool rfl (jot qr17)), trivial⟩
          ·
           refine ops_nil (fin_next rfl ?_)
           cases r17
           ·
            simp at hr17
            try dsimp only [Con.kind, Con.parts, Con.name, Con.lo, Con.hi, Con.cap, Con.ad] at hr17
            refine run_cond_f rfl (run_skip (fin_next rfl (run_seq (run_region (ops_val (yld_assign rfl) rfl (ops_nil (fin_next rfl ?_)))))))
            refine run_ret ?_
            exact ret1 Tryz.results88 () (get_int rfl (by unfold Con.fieldErr; simp only [Con.kind, Con.parts, Con.name, Con.lo, Con.hi]; simp only [hnd]; repeat (first | rfl | exact (if_pos (by omega)).symm | (rw [if_pos (by first | omega | (simp_all; done) | (simp_all; omega) | grind)]; first | done | rfl) | (rw [if_neg (by first | omega | (simp_all; done) | (simp_all; omega) | grind)])))) (.refl _) (fun _ _ _ => trivial)
           ·
            simp at hr17
            try dsimp only [Con.kind, Con.parts, Con.name, Con.lo, Con.hi, Con.cap, Con.ad] at hr17
            refine run_cond_t rfl (run_seq (run_region (ops_val (yld_assign rfl) rfl (ops_nil (fin_next rfl (run_ret ?_))))))
            exact ret1 Tryz.results88 () (get_int rfl (by unfold Con.fieldErr; simp only [Con.kind, Con.parts, Con.name, Con.lo, Con.hi]; simp only [hnd]; repeat (first | rfl | exact (if_pos (by omega)).symm | (rw [if_pos (by first | omega | (simp_all; done) | (simp_all; omega) | grind)]; first | done | rfl) | (rw [if_neg (by first | omega | (simp_all; done) | (simp_all; omega) | grind)])))) (.refl _) (fun _ _ _ => trivial)
        ·
         simp at hr12
         try dsimp only [Con.kind, Con.parts, Con.name, Con.lo, Con.hi, Con.cap, Con.ad] at hr12
         refine run_cond_t rfl (run_seq (run_region (ops_val (yld_assign rfl) rfl (ops_nil (fin_next rfl (run_ret ?_))))))
         exact ret1 Tryz.results88 () (get_int rfl (by unfold Con.fieldErr; simp only [Con.kind, Con.parts, Con.name, Con.lo, Con.hi]; simp only [hnd]; repeat (first | rfl | exact (if_pos (by omega)).symm | (rw [if_pos (by first | omega | (simp_all; done) | (simp_all; omega) | grind)]; first | done | rfl) | (rw [if_neg (by first | omega | (simp_all; done) | (simp_all; omega) | grind)])))) (.refl _) (fun _ _ _ => trivial)
      ·
       try dsimp only [Con.kind, Con.parts, Con.name, Con.lo, Con.hi, Con.cap, Con.ad] at hxb
       refine run_cond_t rfl (run_seq (run_region (ops_val (yld_field Tryz.runUnderlying38 rfl rfl rfl Tryz.sizeOf3) rfl ?_)))
       refine ops_val (yld_load 1 Tryz.isAgg3 rfl rfl rfl) rfl ?_
       refine ops_valB (yld_lss rfl rfl) rfl fun r21 hr21 => ?_
       refine ops_val (yld_move rfl) rfl ?_
       refine ops_cut 6 ((decide (lo < (-1099511627776))) || (decide (hi < lo))) (fun r => [(0, .agg #[.int .i64 k, str nm, .int .i64 lo, .int .i64 hi, .slice ad ps.length cap]), (1, .pointer (some ⟨b1, 0, none⟩)), (2, .int .i64 0), (11, .bool false), (12, .pointer (some ⟨b1, 0, none⟩)), (13, .int .i64 k), (14, .pointer (some (rad (some ⟨2, 0, none⟩) (k.toNat * 4)))), (15, .agg #[.int .i64 x1, .int .i64 x2, .int .i64 x3, .bool true]), (3, .pointer (some ⟨b2, 0, none⟩)), (39, .bool false), (40, .pointer (some ⟨b2, 3, none⟩)), (41, .bool true), (51, .bool r)]) ?_ fun r22 hr22 => ?_
       ·
        cases r21
        ·
         have qr22 := hr21
         replace hr21 := of_decide_eq_false hr21
         try dsimp only [Con.kind, Con.parts, Con.name, Con.lo, Con.hi, Con.cap, Con.ad] at hr21
         refine ops_yes rfl rfl (ops_val (yld_field Tryz.runUnderlying38 rfl rfl rfl Tryz.sizeOf3) rfl ?_)
         refine ops_yes rfl rfl (ops_val (yld_load 1 Tryz.isAgg3 rfl rfl rfl) rfl ?_)
         refine ops_yes rfl rfl (ops_val (yld_field Tryz.runUnderlying38 rfl rfl rfl Tryz.sizeOf3) rfl ?_)
         refine ops_yes rfl rfl (ops_val (yld_load 1 Tryz.isAgg3 rfl rfl rfl) rfl ?_)
         refine ops_yes rfl rfl (ops_valB (yld_gtr rfl rfl) rfl fun r23 hr23 => ?_)
         refine ops_val (yld_pick_f rfl rfl) rfl ?_
         refine ops_nil (fin_inv rfl ?_)
         exact met ⟨rfl, rfl, rfl, rfl, rfl, rfl, rfl, rfl, rfl, rfl, rfl, rfl, (get_bool rfl (jof qr22 hr23)), trivial⟩
        ·
         have qr22 := hr21
         replace hr21 := of_decide_eq_true hr21
         try dsimp only [Con.kind, Con.parts, Con.name, Con.lo, Con.hi, Con.cap, Con.ad] at hr21
         refine ops_no rfl rfl rfl rfl (ops_no rfl rfl rfl rfl (ops_no rfl rfl rfl rfl (ops_no rfl rfl rfl rfl (ops_no rfl rfl rfl rfl (ops_val (yld_pick_t rfl rfl) rfl ?_)))))
         refine ops_nil (fin_inv rfl ?_)
         exact met ⟨rfl, rfl, rfl, rfl, rfl, rfl, rfl, rfl, rfl, rfl, rfl, rfl, (get_bool rfl (jot qr22)), trivial⟩
       ·
        refine ops_val (yld_move rfl) rfl ?_
        refine ops_cut 4 ((((decide (lo < (-1099511627776))) || (decide (hi < lo)))) || (decide (1099511627776 < hi))) (fun r => [(0, .agg #[.int .i64 k, str nm, .int .i64 lo, .int .i64 hi, .slice ad ps.length cap]), (1, .pointer (some ⟨b1, 0, none⟩)), (2, .int .i64 0), (11, .bool false), (12, .pointer (some ⟨b1, 0, none⟩)), (13, .int .i64 k), (14, .pointer (some (rad (some ⟨2, 0, none⟩) (k.toNat * 4)))), (15, .agg #[.int .i64 x1, .int .i64 x2, .int .i64 x3, .bool true]), (3, .pointer (some ⟨b2, 0, none⟩)), (39, .bool false), (40, .pointer (some ⟨b2, 3, none⟩)), (41, .bool true), (56, .bool r)]) ?_ fun r24 hr24 => ?_
        ·
         cases r22
         ·
          have qr24 := hr22
          simp at hr22
          try dsimp only [Con.kind, Con.parts, Con.name, Con.lo, Con.hi, Con.cap, Con.ad] at hr22
          refine ops_yes rfl rfl (ops_val (yld_field Tryz.runUnderlying38 rfl rfl rfl Tryz.sizeOf3) rfl ?_)
          refine ops_yes rfl rfl (ops_val (yld_load 1 Tryz.isAgg3 rfl rfl rfl) rfl ?_)
          refine ops_yes rfl rfl (ops_valB (yld_gtr rfl rfl) rfl fun r25 hr25 => ?_)
          refine ops_val (yld_pick_f rfl rfl) rfl ?_
          refine ops_nil (fin_inv rfl ?_)
          exact met ⟨rfl, rfl, rfl, rfl, rfl, rfl, rfl, rfl, rfl, rfl, rfl, rfl, (get_bool rfl (jof qr24 hr25)), trivial⟩
         ·
          have qr24 := hr22
          simp at hr22
          try dsimp only [Con.kind, Con.parts, Con.name, Con.lo, Con.hi, Con.cap, Con.ad] at hr22
          refine ops_no rfl rfl rfl rfl (ops_no rfl rfl rfl rfl (ops_no rfl rfl rfl rfl (ops_val (yld_pick_t rfl rfl) rfl ?_)))
          refine ops_nil (fin_inv rfl ?_)
          exact met ⟨rfl, rfl, rfl, rfl, rfl, rfl, rfl, rfl, rfl, rfl, rfl, rfl, (get_bool rfl (jot qr24)), trivial⟩
        ·
         refine ops_nil (fin_next rfl ?_)
         cases r24
         ·
          simp at hr24
          try dsimp only [Con.kind, Con.parts, Con.name, Con.lo, Con.hi, Con.cap, Con.ad] at hr24
          refine run_cond_f rfl (run_skip (fin_next rfl (run_seq (run_seq (run_region (ops_val (yld_field Tryz.runUnderlying159 rfl rfl rfl Tryz.sizeOf3) rfl ?_))))))
          refine ops_val (yld_load 0 Tryz.isAgg3 rfl rfl rfl) rfl ?_
          refine ops_valB (yld_eql rfl rfl) rfl fun r26 hr26 => ?_
          refine ops_val (yld_move rfl) rfl ?_
          refine ops_cut 4 ((x1 == 0) || (plainS nm)) (fun r => [(0, .agg #[.int .i64 k, str nm, .int .i64 lo, .int .i64 hi, .slice ad ps.length cap]), (1, .pointer (some ⟨b1, 0, none⟩)), (2, .int .i64 0), (11, .bool false), (12, .pointer (some ⟨b1, 0, none⟩)), (13, .int .i64 k), (14, .pointer (some (rad (some ⟨2, 0, none⟩) (k.toNat * 4)))), (15, .agg #[.int .i64 x1, .int .i64 x2, .int .i64 x3, .bool true]), (3, .pointer (some ⟨b2, 0, none⟩)), (39, .bool false), (40, .pointer (some ⟨b2, 3, none⟩)), (41, .bool true), (56, .bool false), (72, .bool r)]) ?_ fun r27 hr27 => ?_
          ·
           cases r26
           ·
            have qr27 := hr26
            replace hr26 := ne_of_beq_false hr26
            try dsimp only [Con.kind, Con.parts, Con.name, Con.lo, Con.hi, Con.cap, Con.ad] at hr26
            refine ops_yes rfl rfl (ops_val (yld_field Tryz.runUnderlying38 rfl rfl rfl Tryz.sizeOf9) rfl ?_)
            refine ops_yes rfl rfl (ops_val (yld_load 1 Tryz.isAgg9 rfl rfl rfl) rfl ?_)
            refine ops_yes rfl rfl (ops_callB (isPlain_c nm) rfl (.refl _) (fun _ _ _ => trivial) rfl fun r28 hr28 => ?_)
            refine ops_val (yld_pick_f rfl rfl) rfl ?_
            refine ops_nil (fin_inv rfl ?_)
            exact met ⟨rfl, rfl, rfl, rfl, rfl, rfl, rfl, rfl, rfl, rfl, rfl, rfl, rfl, (get_bool rfl (jof qr27 hr28)), trivial⟩
           ·
            have qr27 := hr26
            replace hr26 := eq_of_beq hr26
            try dsimp only [Con.kind, Con.parts, Con.name, Con.lo, Con.hi, Con.cap, Con.ad] at hr26
            refine ops_no rfl rfl rfl rfl (ops_no rfl rfl rfl rfl (ops_no rfl rfl rfl rfl (ops_val (yld_pick_t rfl rfl) rfl ?_)))
            refine ops_nil (fin_inv rfl ?_)
            exact met ⟨rfl, rfl, rfl, rfl, rfl, rfl, rfl, rfl, rfl, rfl, rfl, rfl, rfl, (get_bool rfl (jot qr27)), trivial⟩
          ·
           refine ops_val (yld_move rfl) rfl ?_
           refine ops_cut 9 ((((x1 == 0) || (plainS nm))) || (((x1 == 2) && (reservedS nm)))) (fun r => [(0, .agg #[.int .i64 k, str nm, .int .i64 lo, .int .i64 hi, .slice ad ps.length cap]), (1, .pointer (some ⟨b1, 0, none⟩)), (2, .int .i64 0), (11, .bool false), (12, .pointer (some ⟨b1, 0, none⟩)), (13, .int .i64 k), (14, .pointer (some (rad (some ⟨2, 0, none⟩) (k.toNat * 4)))), (15, .agg #[.int .i64 x1, .int .i64 x2, .int .i64 x3, .bool true]), (3, .pointer (some ⟨b2, 0, none⟩)), (39, .bool false), (40, .pointer (some ⟨b2, 3, none⟩)), (41, .bool true), (56, .bool false), (82, .bool r)]) ?_ fun r29 hr29 => ?_
           ·
            cases r27
            ·
             have qr29 := hr27
             simp at hr27
             try dsimp only [Con.kind, Con.parts, Con.name, Con.lo, Con.hi, Con.cap, Con.ad] at hr27
             refine ops_yes rfl rfl (ops_val (yld_field Tryz.runUnderlying159 rfl rfl rfl Tryz.sizeOf3) rfl ?_)
             refine ops_yes rfl rfl (ops_val (yld_load 0 Tryz.isAgg3 rfl rfl rfl) rfl ?_)
             refine ops_yes rfl rfl (ops_valB (yld_eql rfl rfl) rfl fun r30 hr30 => ?_)
             refine ops_yes rfl rfl (ops_val (yld_move rfl) rfl ?_)
             refine ops_cut 4 ((x1 == 2) && (reservedS nm)) (fun r => [(0, .agg #[.int .i64 k, str nm, .int .i64 lo, .int .i64 hi, .slice ad ps.length cap]), (1, .pointer (some ⟨b1, 0, none⟩)), (2, .int .i64 0), (11, .bool false), (12, .pointer (some ⟨b1, 0, none⟩)), (13, .int .i64 k), (14, .pointer (some (rad (some ⟨2, 0, none⟩) (k.toNat * 4)))), (15, .agg #[.int .i64 x1, .int .i64 x2, .int .i64 x3, .bool true]), (3, .pointer (some ⟨b2, 0, none⟩)), (39, .bool false), (40, .pointer (some ⟨b2, 3, none⟩)), (41, .bool true), (56, .bool false), (73, .bool false), (81, .bool r)]) ?_ fun r31 hr31 => ?_
             ·
              cases r30
              ·
               have qr31 := hr30
               replace hr30 := ne_of_beq_false hr30
               try dsimp only [Con.kind, Con.parts, Con.name, Con.lo, Con.hi, Con.cap, Con.ad] at hr30
               refine ops_no rfl rfl rfl rfl (ops_no rfl rfl rfl rfl (ops_no rfl rfl rfl rfl (ops_yes rfl rfl (ops_val (yld_pick_f rfl rfl) rfl ?_))))
               refine ops_nil (fin_inv rfl ?_)
               exact met ⟨rfl, rfl, rfl, rfl, rfl, rfl, rfl, rfl, rfl, rfl, rfl, rfl, rfl, rfl, (get_bool rfl (jaf qr31)), trivial⟩
              ·
               have qr31 := hr30
               replace hr30 := eq_of_beq hr30
               try dsimp only [Con.kind, Con.parts, Con.name, Con.lo, Con.hi, Con.cap, Con.ad] at hr30
               refine ops_yes rfl rfl (ops_val (yld_field Tryz.runUnderlying38 rfl rfl rfl Tryz.sizeOf9) rfl ?_)
               refine ops_yes rfl rfl (ops_val (yld_load 1 Tryz.isAgg9 rfl rfl rfl) rfl ?_)
               refine ops_yes rfl rfl (ops_callB (isReserved_c nm (Con.ok_name hok)) rfl (.refl _) (fun _ _ _ => trivial) rfl fun r32 hr32 => ?_)
               refine ops_yes rfl rfl (ops_val (yld_pick_t rfl rfl) rfl ?_)
               refine ops_nil (fin_inv rfl ?_)
               exact met ⟨rfl, rfl, rfl, rfl, rfl, rfl, rfl, rfl, rfl, rfl, rfl, rfl, rfl, rfl, (get_bool rfl (jat qr31 hr32)), trivial⟩
             ·
              refine ops_val (yld_pick_f rfl rfl) rfl ?_
              refine ops_nil (fin_inv rfl ?_)
              exact met ⟨rfl, rfl, rfl, rfl, rfl, rfl, rfl, rfl, rfl, rfl, rfl, rfl, rfl, (get_bool rfl (jof qr29 hr31)), trivial⟩
            ·
             have qr29 := hr27
             simp at hr27
             try dsimp only [Con.kind, Con.parts, Con.name, Con.lo, Con.hi, Con.cap, Con.ad] at hr27
             refine ops_no rfl rfl rfl rfl (ops_no rfl rfl rfl rfl (ops_no rfl rfl rfl rfl (ops_no rfl rfl rfl rfl (ops_no rfl rfl rfl rfl (ops_no rfl rfl rfl rfl (ops_no rfl rfl rfl rfl (ops_no rfl rfl rfl rfl ?_)))))))
             refine ops_val (yld_pick_t rfl rfl) rfl ?_
             refine ops_nil (fin_inv rfl ?_)
             exact met ⟨rfl, rfl, rfl, rfl, rfl, rfl, rfl, rfl, rfl, rfl, rfl, rfl, rfl, (get_bool rfl (jot qr29)), trivial⟩
           ·
            refine ops_nil (fin_next rfl ?_)
            cases r29
            ·
             simp at hr29
             try dsimp only [Con.kind, Con.parts, Con.name, Con.lo, Con.hi, Con.cap, Con.ad] at hr29
             refine run_cond_f rfl (run_skip (fin_next rfl (run_seq (run_region (ops_val (yld_assign rfl) rfl (ops_nil (fin_next rfl ?_)))))))
             refine run_ret ?_
             exact ret1 Tryz.results88 () (get_int rfl (by unfold Con.fieldErr; simp only [Con.kind, Con.parts, Con.name, Con.lo, Con.hi]; simp only [hnd]; repeat (first | rfl | exact (if_pos (by omega)).symm | (rw [if_pos (by first | omega | (simp_all; done) | (simp_all; omega) | grind)]; first | done | rfl) | (rw [if_neg (by first | omega | (simp_all; done) | (simp_all; omega) | grind)])))) (.refl _) (fun _ _ _ => trivial)
            ·
             simp at hr29
             try dsimp only [Con.kind, Con.parts, Con.name, Con.lo, Con.hi, Con.cap, Con.ad] at hr29
             refine run_cond_t rfl (run_seq (run_region (ops_val (yld_assign rfl) rfl (ops_nil (fin_next rfl (run_ret ?_))))))
             exact ret1 Tryz.results88 () (get_int rfl (by unfold Con.fieldErr; simp only [Con.kind, Con.parts, Con.name, Con.lo, Con.hi]; simp only [hnd]; repeat (first | rfl | exact (if_pos (by omega)).symm | (rw [if_pos (by first | omega | (simp_all; done) | (simp_all; omega) | grind)]; first | done | rfl) | (rw [if_neg (by first | omega | (simp_all; done) | (simp_all; omega) | grind)])))) (.refl _) (fun _ _ _ => trivial)
         ·
          simp at hr24
          try dsimp only [Con.kind, Con.parts, Con.name, Con.lo, Con.hi, Con.cap, Con.ad] at hr24
          refine run_cond_t rfl (run_seq (run_region (ops_val (yld_assign rfl) rfl (ops_nil (fin_next rfl (run_ret ?_))))))
          exact ret1 Tryz.results88 () (get_int rfl (by unfold Con.fieldErr; simp only [Con.kind, Con.parts, Con.name, Con.lo, Con.hi]; simp only [hnd]; repeat (first | rfl | exact (if_pos (by omega)).symm | (rw [if_pos (by first | omega | (simp_all; done) | (simp_all; omega) | grind)]; first | done | rfl) | (rw [if_neg (by first | omega | (simp_all; done) | (simp_all; omega) | grind)])))) (.refl _) (fun _ _ _ => trivial)
     ·
      simp at hr7
      try dsimp only [Con.kind, Con.parts, Con.name, Con.lo, Con.hi, Con.cap, Con.ad] at hr7
      refine run_cond_t rfl (run_seq (run_region (ops_val (yld_assign rfl) rfl (ops_nil (fin_next rfl (run_ret ?_))))))
      exact ret1 Tryz.results88 () (get_int rfl (by unfold Con.fieldErr; simp only [Con.kind, Con.parts, Con.name, Con.lo, Con.hi]; simp only [hnd]; repeat (first | rfl | exact (if_pos (by omega)).symm | (rw [if_pos (by first | omega | (simp_all; done) | (simp_all; omega) | grind)]; first | done | rfl) | (rw [if_neg (by first | omega | (simp_all; done) | (simp_all; omega) | grind)])))) (.refl _) (fun _ _ _ => trivial)
  ·
   simp at hr2
   try dsimp only [Con.kind, Con.parts, Con.name, Con.lo, Con.hi, Con.cap, Con.ad] at hr2
   refine run_cond_t rfl (run_seq (run_region (ops_val (yld_assign rfl) rfl (ops_nil (fin_next rfl (run_ret ?_))))))
   exact ret1 Tryz.results88 () (get_int rfl (by unfold Con.fieldErr; simp only [Con.kind, Con.parts, Con.name, Con.lo, Con.hi]; repeat (first | rfl | exact (if_pos (by omega)).symm | (rw [if_pos (by first | omega | (simp_all; done) | (simp_all; omega) | grind)]; first | done | rfl) | (rw [if_neg (by first | omega | (simp_all; done) | (simp_all; omega) | grind)])))) (.refl _) (fun _ _ _ => trivial)

end Go.Proofs.YtoafjmalfclpoaaGreatDoor
