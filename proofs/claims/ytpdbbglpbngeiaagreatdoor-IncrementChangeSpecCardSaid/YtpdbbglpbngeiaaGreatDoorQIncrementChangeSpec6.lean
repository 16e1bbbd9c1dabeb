/-
  Part of the proof of the law IncrementChangeSpec over this seat: the small logic, the data, the contracts of functions (no condition).
-/
import Derived.Test.YtpdbbglpbngeiaaGreatDoorQIncrementChangeSpec5
import Derived.Test.YtpdbbglpbngeiaaGreatDoorQIncrementChangeSpec2
import Derived.Test.YtpdbbglpbngeiaaGreatDoorQIncrementChangeSpec1
set_option linter.unusedVariables false
set_option linter.unusedSimpArgs false
set_option linter.unusedSectionVars false
namespace Go.Proofs.YtpdbbglpbngeiaaGreatDoor
open Go Go.Sx Go.Proofs
attribute [local irreducible] Code.wp wpList wpAnyH
open Go.Vs Go.Shelf Go.RowKit
theorem la_ {v v' : Vw} (h : v.to [] v' []) (hs : ¬ v.sl) : ∃ q os, v'.w = Sort.grow (v.w.drewN q) os := by
  have hd : v.w.drawn ≤ v'.w.drawn := h.dr.resolve_left hs
  refine ⟨v'.w.drawn - v.w.drawn, v'.w.heap.extract v.w.heap.size v'.w.heap.size, ?_⟩
  have hh : v'.w.heap = v.w.heap ++ v'.w.heap.extract v.w.heap.size v'.w.heap.size := by
    apply Array.ext_getElem?
    intro i
    have hsz := h.size
    rw [Array.getElem?_append]
    split
    · rename_i hi; exact h.block i hi (by simp)
    · rename_i hi
      rw [Array.getElem?_extract]
      split
      · congr 1; omega
      · rw [Array.getElem?_eq_none (by omega)]
  have e1 := h.os; have e2 := h.tape; have e3 := h.output
  obtain ⟨im', ⟨hp, tp, dn, os', ou⟩, sl'⟩ := v'
  simp only at e1 e2 e3 hh hd
  simp only [Sort.grow, World.drewN, World.mk.injEq]
  exact ⟨hh, e2, by omega, e1, e3⟩
theorem qp_ (blk off size : Nat) (w : World) : CmpLays Tryz.prog 61 #[] Fc.cells 6 il_ blk off size w := fun m os dk _ x y => by
  have h := (cmpF_c x y).run ⟨fun _ => False, sortWorldK Fc.cells 6 w blk off m dk os, False⟩ ⟨by simp, by simp, fun _ h => h.elim⟩ trivial
  refine h.mono ?_
  rintro e w' ⟨_, v', rfl, rfl, _, _, ht⟩
  obtain ⟨q, os', hw⟩ := la_ ht (fun h => h)
  exact ⟨rfl, q, os', hw⟩
theorem ltF (x y : Fc) : ltOf il_ x y = decide (x.lt y) := by unfold ltOf; rw [decide_eq_decide]; exact pr_ x y
theorem swoF : Sort.SWO (ltOf il_) where
  irrefl x := by rw [ltF]; exact decide_eq_false (Fc.lt_irr x)
  trans x y z h1 h2 := by rw [ltF, decide_eq_true_eq] at *; exact Fc.lt_trans h1 h2
  ntrans x y z h1 h2 := by
    rw [ltF, decide_eq_false_iff_not] at *
    intro h
    rcases Fc.lt_tri x y with g | g | g
    · exact h1 g
    · subst g; exact h2 h
    · exact h2 (Fc.lt_trans g h)
theorem totF (x y : Fc) (h1 : ltOf il_ x y = false) (h2 : ltOf il_ y x = false) : x = y := by
  rw [ltF, decide_eq_false_iff_not] at h1 h2
  rcases Fc.lt_tri x y with g | g | g
  · exact absurd g h1
  · exact g
  · exact absurd g h2
theorem jm_ (xs : List Fc) : Sort.flatK Fc.cells 6 xs.toArray = (xs.flatMap Fc.cells).toArray := by
  apply Array.ext_getElem?
  intro t
  have e0 : (xs.flatMap Fc.cells).toArray[t]? = (xs.flatMap Fc.cells)[t]? := by simp
  rw [e0]
  by_cases ht : t < xs.length * 6
  · have hd : t / 6 < xs.length := by omega
    have := kF_ Fc.cells 6 Fc.cells_len xs (t / 6) (t % 6) xs[t / 6] (List.getElem?_eq_getElem hd) (Nat.mod_lt _ (by decide))
    rw [show t / 6 * 6 + t % 6 = t by omega] at this
    rw [this]
    simp only [Sort.flatK, Array.getElem?_map, List.size_toArray]
    rw [Array.getElem?_eq_getElem (by simpa using ht)]
    simp only [Array.getElem_range, Option.map_some]
    rw [getElem!_pos xs.toArray (t / 6) (by simpa using hd)]
    have hl : t % 6 < (Fc.cells xs[t / 6]).length := by rw [Fc.cells_len]; omega
    rw [List.getElem?_eq_getElem hl]
    simp only [List.getElem_toArray]
    rw [getElem!_pos (Fc.cells xs[t / 6]) (t % 6) hl]
  · rw [List.getElem?_eq_none (by rw [bp_ Fc.cells 6 Fc.cells_len]; omega), Array.getElem?_eq_none (by simp [Sort.flatK]; omega)]
theorem ld_ {P : Program} {Γ : List Fct} {f : FuncId} {args : Array Value} {r : Value} {g : Nat} {cur : Array Value} {T : TypeId} {d : Array Value} (hc : fK_ P f)
    (h : ∀ v : Vw, v.sat [(g, .cells cur T (0, 0))] → Calls P f args v.w fun e w' => e = .returned r ∧ ∃ n os, w' = Sort.grow (Sort.putRow id (Sort.ahead v.w n) g 0 d) os) :
    Tri P f args [(g, .cells cur T (0, 0))] Γ (fun _ : Unit => r) (fun _ => [(g, .cells (Sort.putCells id 0 d cur) T (0, 0))]) (fun _ => []) :=
  ⟨hc, fun v h1 _ => (h v h1).mono fun e w' ⟨he, n, os, hw⟩ => by
    have hg := (h1.own _ List.mem_cons_self)
    have hlt : g < v.w.heap.size := (Array.getElem?_eq_some_iff.1 hg.1).1
    have hb : ∀ b, b < v.w.heap.size → w'.heap[b]? = if b = g then some (.cells (Sort.putCells id 0 d cur) T (0, 0)) else v.w.heap[b]? := fun b hb => by
      rw [hw]
      simp only [Sort.grow, Sort.putRow, Sort.mapBlock, Sort.ahead]
      rw [Array.getElem?_append_left (by simpa using hb), Array.getElem?_modify]
      by_cases e : b = g
      · subst e
        simp only [if_true, hg.1, Option.map_some, Sort.onCells]
      · rw [if_neg (fun q => e q.symm), if_neg e]
    have hsz : v.w.heap.size ≤ w'.heap.size := by rw [hw]; simp [Sort.grow, Sort.putRow, Sort.mapBlock, Sort.ahead]
    refine ⟨(), ⟨v.im, w', v.sl⟩, he, rfl, ⟨fun p hp => ?_, by simp, fun b hbb => Nat.lt_of_lt_of_le (h1.lt b hbb) hsz⟩, trivial, ⟨by rw [hw]; rfl, by rw [hw]; rfl, by rw [hw]; rfl, hsz, fun b hbb hn => ?_, fun _ h => h, fun _ h => .inl h, fun b hm => .inl (by simpa using hm), rfl, .inr (by rw [hw]; exact Nat.le_add_right _ _)⟩⟩
    · simp only [List.mem_singleton] at hp
      subst hp
      exact ⟨by show w'.heap[g]? = _; rw [hb g hlt, if_pos rfl], hg.2⟩
    · have hn' : b ≠ g := by simpa using hn
      show w'.heap[b]? = _
      rw [hb b hbb, if_neg hn']⟩
theorem nw_ {cur : Array Value} {d : List Value} (hs : d.length ≤ cur.size) : (Sort.putCells id 0 d.toArray cur).toList.take d.length = d := by
  apply List.ext_getElem?
  intro j
  rw [List.getElem?_take]
  split
  · rename_i hj
    simp only [Sort.putCells, Array.getElem?_toList, Array.getElem?_mapIdx]
    rw [Array.getElem?_eq_getElem (by omega)]
    simp only [Option.map_some, Nat.zero_le, true_and, Nat.zero_add, List.size_toArray, hj, if_true, Nat.sub_zero]
    rw [List.getElem?_eq_getElem hj, getElem!_pos d.toArray j (by simpa using hj)]
    rfl
  · rename_i hj
    rw [List.getElem?_eq_none (by omega)]
theorem nx_ {cur d : Array Value} : (Sort.putCells id 0 d cur).size = cur.size := by simp [Sort.putCells]
theorem holdsV {g : Nat} {cur : Array Value} {T : TypeId} {xs : List Value} {v : Vw} (hs : v.sat [(g, .cells cur T (0, 0))]) (ht : cur.toList.take xs.length = xs) : Sort.Holds id v.w g 0 xs.toArray := by
  intro j hj
  have hb := (hs.own _ List.mem_cons_self).1
  simp only [List.size_toArray] at hj
  have hc : cur[j]? = some xs[j] := by
    have := congrArg (fun l => l[j]?) ht
    simp only [List.getElem?_take, hj, if_true, Array.getElem?_toList] at this
    rw [this, List.getElem?_eq_getElem hj]
  refine ⟨?_, ?_⟩
  · simp only [World.cell?, Nat.zero_add, hb, Option.isSome_none, Bool.false_eq_true, if_false]
    rw [hc, getElem!_pos xs.toArray j (by simpa using hj)]
    rfl
  · simp [World.frozen?, hb]
def gU_ (xs : List Fc) : List Fc := xs.mergeSort fun x y => !(ltOf il_) y x
theorem fx_ (xs : List Fc) : (gU_ xs).length = xs.length := List.length_mergeSort _
theorem oq_ (xs : List Fc) (x : Fc) : x ∈ gU_ xs ↔ x ∈ xs := List.mem_mergeSort
theorem op_ {xs : List Fc} (h : xs.Nodup) : Srt (gU_ xs) := by
  have h1 : (gU_ xs).Pairwise fun x y => (!(ltOf il_) y x) = true := List.pairwise_mergeSort
    (fun a b c h1 h2 => by simp only [Bool.not_eq_true'] at *; exact swoF.ntrans c b a h2 h1)
    (fun a b => by
      simp only [Bool.or_eq_true, Bool.not_eq_true']
      rw [ltF, ltF, decide_eq_false_iff_not, decide_eq_false_iff_not]
      rcases Fc.lt_tri a b with g | g | g
      · exact .inl fun q => Fc.lt_irr a (Fc.lt_trans g q)
      · subst g; exact .inl (Fc.lt_irr a)
      · exact .inr fun q => Fc.lt_irr a (Fc.lt_trans q g)) xs
  have h2 : (gU_ xs).Nodup := (List.mergeSort_perm xs _).nodup_iff.2 h
  refine (h1.and h2).imp ?_
  rintro x y ⟨a, b⟩
  simp only [Bool.not_eq_true', ltF, decide_eq_false_iff_not] at a
  rcases Fc.lt_tri x y with g | g | g
  · exact g
  · exact absurd g b
  · exact absurd g a
theorem pO_ {sv : Value} {xs : List Fc} {Hr : Hp} (h : aQ_ 41 6 sv xs.length (xs.flatMap Fc.cells) Hr) (hl : xs.length ≤ 1000000000000) :
    Tri Tryz.prog 60 #[sv, .func (.func 61) #[] #[]] Hr [] (fun _ : {y : Hp // aQ_ 41 6 sv (gU_ xs).length ((gU_ xs).flatMap Fc.cells) y} => .tuple #[]) (fun y => y.1) (fun _ => []) := by
  rcases h.2 with ⟨rfl, h2, rfl⟩ | ⟨g, cap, cur, rfl, rfl, h3, h4, h5, h6⟩
  · obtain rfl : xs = [] := List.eq_nil_of_length_eq_zero h2
    have T := eo_ (P := Tryz.prog) (H := []) (Γ := []) (callable Tryz.func60 rfl rfl) (fun v _ _ => (AnyF.slices_SortFunc_none Tryz.sortFc none 0 (.func (.func 61) #[] #[]) v.w).mono (by rintro e w' ⟨rfl, rfl⟩; exact ⟨rfl, ⟨rfl, rfl, rfl, Nat.le_refl _, fun _ _ => rfl⟩, .inr (Nat.le_refl _)⟩))
    exact ⟨T.callable, fun v a b => (T.run v a b).mono (by rintro e w' ⟨x, v', e1, e2, e3, e4, e5⟩; exact ⟨⟨[], by simpa [gU_] using aQ_.nil _ _⟩, v', e1, e2, e3, e4, e5⟩)⟩
  · have hx : (xs.flatMap Fc.cells).length = xs.length * 6 := bp_ Fc.cells 6 Fc.cells_len xs
    have T := ld_ (P := Tryz.prog) (Γ := []) (r := .tuple #[]) (g := g) (cur := cur) (T := 41) (d := ((gU_ xs).flatMap Fc.cells).toArray) (f := 60) (args := #[.slice (some ⟨g, 0, none⟩) xs.length cap, .func (.func 61) #[] #[]]) (callable Tryz.func60 rfl rfl) (fun v hs => by
      have hh := AnyQ.slices_SortFunc_total Tryz.sortFc 6 ai_ B_ Fc.cells Fc.cells_len (fun x u hu => List.all_eq_true.1 (Fc.cells_one x) u hu) il_ swoF 61 #[] g 0 cap xs.toArray v.w (fun args w => (callable Tryz.func61 rfl rfl) args w) (qp_ g 0 _ v.w) (by unfold Sort.HoldsK; rw [jm_]; exact holdsV hs (by rw [hx]; exact h6)) (Array.getElem?_eq_some_iff.1 (hs.own _ List.mem_cons_self).1).1 (by simp; omega) totF
      refine hh.mono ?_
      rintro e w' ⟨rfl, n, os, rfl⟩
      refine ⟨rfl, n, os, ?_⟩
      unfold sortWorldK Sort.putRowK
      rw [show ((xs.toArray.toList.mergeSort fun x y => !(ltOf il_) y x)) = gU_ xs from rfl, jm_])
    refine ⟨T.callable, fun v a b => (T.run v a b).mono ?_⟩
    rintro e w' ⟨x, v', e1, e2, e3, e4, e5⟩
    have hy : ((gU_ xs).flatMap Fc.cells).length = xs.length * 6 := by rw [bp_ Fc.cells 6 Fc.cells_len, fx_]
    refine ⟨⟨_, by rw [hy, fx_], .inr ⟨g, cap, _, by rw [fx_], rfl, by rw [fx_]; exact h3, h4, by rw [nx_]; exact h5, ?_⟩⟩, v', e1, e2, e3, e4, e5⟩
    have := nw_ (cur := cur) (d := (gU_ xs).flatMap Fc.cells) (by rw [hy, h5]; omega)
    rw [hy] at this
    rw [fx_]; exact this
end Go.Proofs.YtpdbbglpbngeiaaGreatDoor
namespace Go.Proofs.YtpdbbglpbngeiaaGreatDoor
open Go Go.Sx Go.Proofs
attribute [local irreducible] Code.wp wpList wpAnyH
open Go.Vs
section
variable {P : Program} {N : Nat} {v0 : Vw} {H0 : Hp} {fr : Fr} {H F : Hp} {Γ : List Fct} {K D : Type} [DecidableEq K]
theorem ji_ : ∀ (B : Hp) {v : Vw}, bd_ (B.map fun p => eD_ p.1 p.2) v → ∀ p ∈ B, v.im p.1 ∧ v.w.heap[p.1]? = some p.2
  | [], _, _, _, h => by simp at h
  | q :: B, v, h, p, hp => by
    rcases List.mem_cons.1 hp with rfl | hp
    · exact h.1
    · exact ji_ B h.2 p hp
theorem oQ_ {k : Act → World → Prop} {kv : K → Value} {cells : D → List Value} {kt e : TypeId} {sz mb : Nat} {l : List (K × D)} {Hm : Hp} (hK : KeyT P kt kv) (hm : dO_ kv cells e sz l mb Hm) (hH : H.Perm (Hm ++ F))
    (h : ∀ adr, Ok N v0 H0 k fr F (mlF P kt kv cells mb l adr :: Γ)) : Ok N v0 H0 k fr H Γ := by
  obtain ⟨adr, ha⟩ := hm.lent hK
  refine lC_ Hm hH (gq_ (fun v _ hv => ?_) (h adr))
  rw [hy_] at hv
  refine ⟨ha v fun p hp => ?_, hv.2⟩
  have := hv.1
  exact ji_ Hm.reverse (by rw [List.map_reverse] at *; exact this) p (List.mem_reverse.2 hp)
theorem fc_ {tF : TypeId} {E : Emt P tF} {nw fm : List Fc} {Hs : Hp} {ty t kt et : TypeId} {x : Operand} (hS : E.St nw fm Hs) (hu : ∀ w, (underlying t).run P w = .ok (.map kt et) w) (hx : Fr.ev fr x = some (.map (some E.kb))) (hp : H.Perm (Hs ++ F)) :
    Yld P N fr H Γ (.call ⟨.builtin .len, #[x], #[t]⟩) ty (.int .i64 ((E.kof nw).length : Int)) := by
  obtain ⟨es, c, g1, g2⟩ := E.known hS
  exact ix_ g2 hu hx fun v h _ => iO_ hp g1 h
end
def mr_ (x : Ix) (n : Nat) : Prop := x.above.length ≤ n ∧ x.under.length ≤ n ∧ x.frm.length ≤ n ∧ x.into.length ≤ n ∧ x.ranges.length ≤ n ∧ x.firms.length ≤ n
theorem pe_ : mr_ Ix.nil 0 := by simp [mr_, Ix.nil]
theorem hw_ {x : Ix} {n : Nat} (h : mr_ x n) (b : Bool) (f : Fc) : mr_ (x.add b f) (n + 1) := by
  obtain ⟨h1, h2, h3, h4, h5, h6⟩ := h
  unfold Ix.add mr_
  split
  · simp; omega
  · split
    · simp; omega
    · split
      · cases b <;> simp <;> omega
      · omega
theorem lM_ {x : Ix} {n : Nat} (h : mr_ x n) (hn : n ≤ 1000000000) : (∀ k, (lat x.above k).length ≤ 1000000000 ∧ (lat x.under k).length ≤ 1000000000) ∧ (∀ k, (lat x.frm k).length ≤ 1000000000 ∧ (lat x.into k).length ≤ 1000000000 ∧ (lat x.ranges k).length ≤ 1000000000 ∧ (lat x.firms k).length ≤ 1000000000) := by
  obtain ⟨h1, h2, h3, h4, h5, h6⟩ := h
  refine ⟨fun k => ⟨?_, ?_⟩, fun k => ⟨?_, ?_, ?_, ?_⟩⟩
  · have := fn_ x.above k; omega
  · have := fn_ x.under k; omega
  · have := fn_ x.frm k; omega
  · have := fn_ x.into k; omega
  · have := fn_ x.ranges k; omega
  · have := fn_ x.firms k; omega
theorem pV_ (B : EngB) (E : Emt Tryz.prog 41) (A0 : EngA) (pm : List (Ky × Pc)) (x : Ix) (f : Fc) (nw fm : List Fc) (Hs : Hp) (hS : E.St nw fm Hs) (Ha Hu Ho Hi Hr Hm : Hp) (hI : IxO 9 41 B x ⟨Ha, Hu, Ho, Hi, Hr, Hm⟩) (hpl : ∀ k, (lat pm k).length ≤ 1000000000) (hxl : ∀ k, (lat x.above k).length ≤ 1000000000 ∧ (lat x.under k).length ≤ 1000000000) (hyl : ∀ k, (lat x.frm k).length ≤ 1000000000 ∧ (lat x.into k).length ≤ 1000000000 ∧ (lat x.ranges k).length ≤ 1000000000 ∧ (lat x.firms k).length ≤ 1000000000) (hf : f.kind = 3 → -1099511627776 ≤ f.lo ∧ f.lo ≤ f.hi ∧ f.hi ≤ 1099511627776) (hq : f.kind = 3 → ∀ y ∈ lat pm (Ky.mk 9 (Fc.r f) []), -1099511627776 ≤ y.lo ∧ y.lo ≤ y.hi ∧ y.hi ≤ 1099511627776) (hk : f.kind = 1) : ∀ (j : Nat) {fv : Value}, (rlV B.g 1)[j]? = some fv → ∃ n : Nat, fv = .func (.func n) #[zp_ B.g 0] #[] ∧ Tri Tryz.prog n #[zp_ B.g 0, f.val] ((Ha ++ (Hu ++ (Ho ++ (Hi ++ (Hr ++ Hm))))) ++ Hs) [gF B E, pF B pm A0, E.ef] (fun _ : {H' : Hp // E.St (rl E.stp E.kof pm x f j (nw, fm)).1 (rl E.stp E.kof pm x f j (nw, fm)).2 H'} => .tuple #[]) (fun y => (Ha ++ (Hu ++ (Ho ++ (Hi ++ (Hr ++ Hm))))) ++ y.1) (fun _ => [])
  | 0, _, h => ⟨100, (Option.some.inj h).symm, rl10_c B E A0 pm x f nw fm Hs hS Ha Hu Ho Hi Hr Hm hI hpl hxl hyl hf hq hk⟩
  | 1, _, h => ⟨101, (Option.some.inj h).symm, rl11_c B E A0 pm x f nw fm Hs hS Ha Hu Ho Hi Hr Hm hI hpl hxl hyl hf hq hk⟩
  | 2, _, h => ⟨102, (Option.some.inj h).symm, rl12_c B E A0 pm x f nw fm Hs hS Ha Hu Ho Hi Hr Hm hI hpl hxl hyl hf hq hk⟩
  | 3, _, h => ⟨103, (Option.some.inj h).symm, rl13_c B E A0 pm x f nw fm Hs hS Ha Hu Ho Hi Hr Hm hI hpl hxl hyl hf hq hk⟩
  | 4, _, h => ⟨104, (Option.some.inj h).symm, rl14_c B E A0 pm x f nw fm Hs hS Ha Hu Ho Hi Hr Hm hI hpl hxl hyl hf hq hk⟩
  | 5, _, h => ⟨105, (Option.some.inj h).symm, rl15_c B E A0 pm x f nw fm Hs hS Ha Hu Ho Hi Hr Hm hI hpl hxl hyl hf hq hk⟩
  | j + 6, _, h => by simp [rlV] at h
theorem pU_ (B : EngB) (E : Emt Tryz.prog 41) (A0 : EngA) (pm : List (Ky × Pc)) (x : Ix) (f : Fc) (nw fm : List Fc) (Hs : Hp) (hS : E.St nw fm Hs) (Ha Hu Ho Hi Hr Hm : Hp) (hI : IxO 9 41 B x ⟨Ha, Hu, Ho, Hi, Hr, Hm⟩) (hpl : ∀ k, (lat pm k).length ≤ 1000000000) (hxl : ∀ k, (lat x.above k).length ≤ 1000000000 ∧ (lat x.under k).length ≤ 1000000000) (hyl : ∀ k, (lat x.frm k).length ≤ 1000000000 ∧ (lat x.into k).length ≤ 1000000000 ∧ (lat x.ranges k).length ≤ 1000000000 ∧ (lat x.firms k).length ≤ 1000000000) (hf : f.kind = 3 → -1099511627776 ≤ f.lo ∧ f.lo ≤ f.hi ∧ f.hi ≤ 1099511627776) (hq : f.kind = 3 → ∀ y ∈ lat pm (Ky.mk 9 (Fc.r f) []), -1099511627776 ≤ y.lo ∧ y.lo ≤ y.hi ∧ y.hi ≤ 1099511627776) (hk : f.kind = 2) : ∀ (j : Nat) {fv : Value}, (rlV B.g 2)[j]? = some fv → ∃ n : Nat, fv = .func (.func n) #[zp_ B.g 0] #[] ∧ Tri Tryz.prog n #[zp_ B.g 0, f.val] ((Ha ++ (Hu ++ (Ho ++ (Hi ++ (Hr ++ Hm))))) ++ Hs) [gF B E, pF B pm A0, E.ef] (fun _ : {H' : Hp // E.St (rl E.stp E.kof pm x f j (nw, fm)).1 (rl E.stp E.kof pm x f j (nw, fm)).2 H'} => .tuple #[]) (fun y => (Ha ++ (Hu ++ (Ho ++ (Hi ++ (Hr ++ Hm))))) ++ y.1) (fun _ => [])
  | 0, _, h => ⟨106, (Option.some.inj h).symm, rl20_c B E A0 pm x f nw fm Hs hS Ha Hu Ho Hi Hr Hm hI hpl hxl hyl hf hq hk⟩
  | 1, _, h => ⟨107, (Option.some.inj h).symm, rl21_c B E A0 pm x f nw fm Hs hS Ha Hu Ho Hi Hr Hm hI hpl hxl hyl hf hq hk⟩
  | 2, _, h => ⟨108, (Option.some.inj h).symm, rl22_c B E A0 pm x f nw fm Hs hS Ha Hu Ho Hi Hr Hm hI hpl hxl hyl hf hq hk⟩
  | 3, _, h => ⟨109, (Option.some.inj h).symm, rl23_c B E A0 pm x f nw fm Hs hS Ha Hu Ho Hi Hr Hm hI hpl hxl hyl hf hq hk⟩
  | j + 4, _, h => by simp [rlV] at h
theorem pT_ (B : EngB) (E : Emt Tryz.prog 41) (A0 : EngA) (pm : List (Ky × Pc)) (x : Ix) (f : Fc) (nw fm : List Fc) (Hs : Hp) (hS : E.St nw fm Hs) (Ha Hu Ho Hi Hr Hm : Hp) (hI : IxO 9 41 B x ⟨Ha, Hu, Ho, Hi, Hr, Hm⟩) (hpl : ∀ k, (lat pm k).length ≤ 1000000000) (hxl : ∀ k, (lat x.above k).length ≤ 1000000000 ∧ (lat x.under k).length ≤ 1000000000) (hyl : ∀ k, (lat x.frm k).length ≤ 1000000000 ∧ (lat x.into k).length ≤ 1000000000 ∧ (lat x.ranges k).length ≤ 1000000000 ∧ (lat x.firms k).length ≤ 1000000000) (hf : f.kind = 3 → -1099511627776 ≤ f.lo ∧ f.lo ≤ f.hi ∧ f.hi ≤ 1099511627776) (hq : f.kind = 3 → ∀ y ∈ lat pm (Ky.mk 9 (Fc.r f) []), -1099511627776 ≤ y.lo ∧ y.lo ≤ y.hi ∧ y.hi ≤ 1099511627776) (hk : f.kind = 3) : ∀ (j : Nat) {fv : Value}, (rlV B.g 3)[j]? = some fv → ∃ n : Nat, fv = .func (.func n) #[zp_ B.g 0] #[] ∧ Tri Tryz.prog n #[zp_ B.g 0, f.val] ((Ha ++ (Hu ++ (Ho ++ (Hi ++ (Hr ++ Hm))))) ++ Hs) [gF B E, pF B pm A0, E.ef] (fun _ : {H' : Hp // E.St (rl E.stp E.kof pm x f j (nw, fm)).1 (rl E.stp E.kof pm x f j (nw, fm)).2 H'} => .tuple #[]) (fun y => (Ha ++ (Hu ++ (Ho ++ (Hi ++ (Hr ++ Hm))))) ++ y.1) (fun _ => [])
  | 0, _, h => ⟨110, (Option.some.inj h).symm, rl30_c B E A0 pm x f nw fm Hs hS Ha Hu Ho Hi Hr Hm hI hpl hxl hyl hf hq hk⟩
  | 1, _, h => ⟨111, (Option.some.inj h).symm, rl31_c B E A0 pm x f nw fm Hs hS Ha Hu Ho Hi Hr Hm hI hpl hxl hyl hf hq hk⟩
  | j + 2, _, h => by simp [rlV] at h
def dI_ (p : List Pc) (bu : Int) (c : Cl) (e : Int) : Prop :=
  if bM_ p ≠ 0 then c = Cl.no ∧ e = bM_ p
  else if bu < 0 ∨ 1073741824 < bu then c = Cl.no ∧ e = 1
  else (e = 0 ∧ c.ok ∧ c.atoms = atS p ∧ dt_ p (atS p) (min bu 65536).toNat (some c.facts)) ∨ (c = Cl.no ∧ e = (if bu < 65536 then 3 else 2) ∧ dt_ p (atS p) (min bu 65536).toNat none)
theorem mb_ {p : List Pc} {bu : Int} (h : bM_ p ≠ 0) : dI_ p bu Cl.no (bM_ p) := by unfold dI_; rw [if_pos h]; exact ⟨rfl, rfl⟩
theorem hI_ {p : List Pc} {bu : Int} (h : bM_ p = 0) (hb : bu < 0 ∨ 1073741824 < bu) : dI_ p bu Cl.no 1 := by unfold dI_; rw [if_neg (by simp [h]), if_pos hb]; exact ⟨rfl, rfl⟩
theorem qz_ {p : List Pc} {bu : Int} {m n : Nat} {c : Cl} {q fm : List Fc} {x : Ix} (hc : bM_ p = 0) (h1 : ¬ bu < 0) (h2 : ¬ 1073741824 < bu) (hm : min bu 65536 = (m : Int)) (hk : c.ok) (ha : c.atoms = atS p) (hL : LoopA (uniq [] p) (atS p) m n q fm x) (hn : q.length ≤ n) (hl : q.length ≤ m) (hf : c.facts = gU_ q) : dI_ p bu c 0 := by
  unfold dI_
  rw [if_neg (by simp [hc]), if_neg (by omega)]
  have e : n = q.length := Nat.le_antisymm hL.le hn
  subst e
  refine .inl ⟨rfl, hk, ha, ?_⟩
  rw [hm, hf]
  exact ⟨op_ hL.nd, fun y => by rw [oq_, ← mq_ hL hl, lc_], by rw [fx_]; simpa using hl⟩
theorem en_ {p : List Pc} {bu : Int} {m : Nat} {e : Int} {M : List Fc} (hc : bM_ p = 0) (h1 : ¬ bu < 0) (h2 : ¬ 1073741824 < bu) (hm : min bu 65536 = (m : Int)) (he : e = if bu < 65536 then 3 else 2) (nd : M.Nodup) (hd : ∀ y ∈ M, Der (uniq [] p) (atS p) y) (hl : m < M.length) : dI_ p bu Cl.no e := by
  unfold dI_
  rw [if_neg (by simp [hc]), if_neg (by omega)]
  exact .inr ⟨rfl, he, M, nd, fun y hy => lc_.1 (hd y hy), by rw [hm]; simpa using hl⟩
end Go.Proofs.YtpdbbglpbngeiaaGreatDoor
namespace Go.Proofs.YtpdbbglpbngeiaaGreatDoor
open Go Go.Sx Go.Proofs
attribute [local irreducible] Code.wp wpList wpAnyH
open Go.Vs
set_option maxHeartbeats 4000000 in
theorem qI_ (p : List Pc) (pad : Option Addr) (pcap : Nat) (bu : Int) (hsm : ∀ x ∈ p, x.sm) (hp : p.length ≤ 100000000) : Tri Tryz.prog 18 #[.slice pad (List.length p) pcap, .int .i64 bu] [] [az_ pad (List.flatMap Pc.cells p), gP_] (fun y : {y : Cl × Int // dI_ p bu y.1 y.2} => .tuple #[y.1.1.val, .int .i64 y.1.2]) (fun _ => []) (fun y => y.1.1.row) := by
 refine T_ Tryz.func18 rfl rfl Tryz.ntmps18 rfl fun v0 => ?_
 refine h_ (c_ (ao_ dQ_ rfl fun b1 => ?_))
 refine a_ (g_ rfl) rfl (e_ (b_ rfl (jV_ (h_ (h_ (c_ (a_ (d_ rfl) rfl (W_ (kK_ p pad pcap (by omega) hsm) rfl I_ (fun v _ h => by exact ⟨h.1, h.2.1, trivial⟩) rfl fun _ => ?_))))))))
 refine a_ (g_ rfl) rfl (e_ (b_ rfl (h_ (c_ (a_ (d_ rfl) rfl (x_ (bN_ rfl rfl) rfl fun r1 hr1 => ?_))))))
 refine e_ (b_ rfl ?_)
 cases r1
 ·
  replace hr1 := bb_ hr1
  have hchk := hr1
  refine v_ rfl (z_ (b_ rfl (h_ (h_ (c_ (a_ (d_ rfl) rfl (x_ (av_ rfl rfl) rfl fun r2 hr2 => ?_)))))))
  refine a_ (d_ rfl) rfl ?_
  cases r2
  ·
   replace hr2 := of_decide_eq_false hr2
   have hb0 := hr2
   refine p_ rfl rfl (a_ (d_ rfl) rfl (p_ rfl rfl (x_ (bR_ rfl rfl) rfl fun r3 hr3 => ?_)))
   refine a_ (C_ rfl rfl) rfl (e_ (b_ rfl ?_))
   cases r3
   ·
    replace hr3 := of_decide_eq_false hr3
    have hb1 := hr3
    refine v_ rfl (z_ (b_ rfl (h_ ?_)))
    obtain ⟨m, hm0'⟩ : ∃ m : Nat, min bu 65536 = (m : Int) := ⟨(min bu 65536).toNat, by omega⟩
    have hm : m ≤ 65536 := by omega
    have hvk := oj_ (fb_ hchk)
    have hpl : ∀ k, (lat (bg_ (uniq [] p)) k).length ≤ 1000000000 := fun k => by have h1 := fn_ (bg_ (uniq [] p)) k; have h2 := iL_ (uniq [] p); have h3 := hk_ p []; simp only [List.length_nil] at h3; omega
    refine c_ (a_ (d_ rfl) rfl (W_ (lE_ p pad pcap (by omega)) rfl I_ (fun v _ h => by exact ⟨h.1, trivial⟩) rfl fun ⟨⟨g, pb, kb, ab, ub, ob, ib, rb, sb, fb, lv, hm0, hl0⟩, hy⟩ => ?_))
    dsimp only
    dsimp only [NewE.own, NewE.ok] at hy ⊢
    obtain ⟨hym, hyl⟩ := hy
    simp only [List.cons_append, List.append_assoc]
    refine bk_ hyl (f_ (f_ (f_ (f_ (f_ (f_ (f_ (f_ (f_ (s_ E_)))))))))) fun lad lcap hlad hclad hmlad hzlad => ?_
    subst hlad
    refine ao_ Tryz.zeroValue85 rfl fun b2 => ?_
    refine aj_ (bu_ i_ (bu_ i_ (bu_ i_ (bu_ i_ (bu_ i_ (bu_ i_ (bu_ i_ (bu_ i_ (bu_ i_ (bu_ i_ (df_ bj_))))))))))) (Q_ 0 Tryz.sizeOf85 rfl rfl rfl rfl rfl rfl (e_ (b_ rfl (h_ (c_ (a_ (d_ rfl) rfl (a_ (bC_ (gj_ rfl rfl) (congrArg (Value.int .i64) hm0')) rfl (ao_ Tryz.zeroValue3 rfl fun b3 => ?_))))))))
    refine Q_ 0 L_ rfl rfl rfl rfl rfl rfl (e_ (b_ rfl (h_ (c_ (ao_ kW_ rfl fun b4 => ?_)))))
    refine e_ (b_ rfl (h_ (c_ (a_ (u_ 2 cA_ rfl rfl rfl) rfl (a_ (cR_ rfl rfl) rfl (a_ (ar_ rfl) rfl (a_ (l_ J_ rfl rfl rfl be_) rfl (Q_ 3 be_ rfl rfl rfl rfl rfl rfl (e_ ?_)))))))))
    refine b_ rfl (h_ (gG_ (eD_ b2 (.cells #[zp_ g 0] 85 (0, 0))) (df_ (f_ (f_ i_))) (fun _ h1 h2 _ => ⟨h1, h2⟩) ?_))
    refine gG_ (eD_ b3 (.cells #[.int .i64 (m : Int)] 3 (0, 0))) (df_ (f_ i_)) (fun _ h1 h2 _ => ⟨h1, h2⟩) ?_
    refine gG_ (eD_ g (.cells #[.map (some pb), .slice lad (List.length (aH_ (uniq [] p))) lcap, .map (some kb), .func (.func 55) #[] #[zp_ b2 0, zp_ b3 0, zp_ b4 0], .map (some ab), .map (some ub), .map (some ob), .map (some ib), .map (some rb), .map (some sb), .map (some fb)] 94 (0, 0))) (df_ (f_ i_)) (fun _ h1 h2 _ => ⟨h1, h2⟩) ?_
    refine oQ_ gf_ hym (f_ (f_ (f_ (f_ (f_ (f_ (f_ (f_ (f_ S_))))))))) fun adr => ?_
    refine c_ (a_ (d_ rfl) rfl (W_ (atS_c p pad pcap (by omega)) rfl I_ (fun v _ h => by exact ⟨h.2.2.2.2.2.1, trivial⟩) rfl fun ⟨⟨aad, acap⟩, hac, ham, haz⟩ => ?_))
    dsimp only
    refine a_ (g_ rfl) rfl (e_ (b_ rfl (h_ (c_ (a_ (al_ cA_ rfl (fun v _ h => by exact h.2.2.2.2.1) rfl) rfl (a_ (d_ rfl) rfl (W_ (qs_ (EngB.mk g pb ab ub ob ib rb sb lad lcap (aH_ (uniq [] p))) (EA m hm (EngB.mk g pb ab ub ob ib rb sb lad lcap (aH_ (uniq [] p))) b2 b3 b4 kb fb) [] [] [(b4, .cells #[.slice none 0 0] 26 (0, 0)), (kb, .map #[] 0), (fb, .map #[] 0)] ⟨.slice none 0 0, #[], 0, #[], 0, [], [], rfl, aQ_.nil _ _, SetE.nil, SetE.nil, by simp⟩ (atS p) aad acap (by have := kM_ p; omega) (by have := id_ (uniq [] p); have h3 := hk_ p []; simp only [List.length_nil] at h3; show (aH_ (uniq [] p)).length ≤ _; omega)) rfl (m_ i_ (m_ i_ (f_ (f_ (f_ (f_ (f_ (f_ i_)))))))) (fun v _ h => by exact ⟨h.2.2.1, h.2.2.2.2.2.1, h.1, ⟨h.2.2.2.2.1, h.2.2.2.1, h.2.2.1⟩, trivial⟩) rfl fun ⟨Hs1, hS1⟩ => ?_)))))))
    dsimp only
    refine e_ (b_ rfl (aj_ (bu_ (s_ i_) (bu_ (s_ i_) (bu_ (s_ i_) (bu_ (s_ i_) (bu_ (s_ i_) (bu_ (s_ i_) (df_ bj_))))))) (h_ (c_ (a_ (al_ cA_ rfl (fun v _ h => by exact h.2.2.2.2.1) rfl) rfl (W_ (pS_ g) rfl I_ (fun _ _ _ => by exact trivial) rfl fun ⟨r1, r2, r3⟩ => ?_))))))
    dsimp only
    refine ao_ Tryz.zeroValue98 rfl fun b5 => ?_
    refine Q_ 0 Tryz.sizeOf98 rfl rfl rfl rfl rfl rfl (e_ (b_ rfl (h_ (jW_ (b_ rfl (h_ (h_ (c_ (a_ (g_ rfl) rfl ?_)))))))))
    refine e_ (b_ rfl (R_ ?_))
    refine aL_ (ι := {y : Nat × List Fc × List Fc × Ix × Hp × Hp × Hp × Hp × Hp × Hp × Hp // LoopA (uniq [] p) (atS p) m y.1 y.2.1 y.2.2.1 y.2.2.2.1 ∧ ((EA m hm (EngB.mk g pb ab ub ob ib rb sb lad lcap (aH_ (uniq [] p))) b2 b3 b4 kb fb)).St y.2.1 y.2.2.1 y.2.2.2.2.2.2.2.2.2.2 ∧ IxO 9 41 (EngB.mk g pb ab ub ob ib rb sb lad lcap (aH_ (uniq [] p))) y.2.2.2.1 ⟨y.2.2.2.2.1, y.2.2.2.2.2.1, y.2.2.2.2.2.2.1, y.2.2.2.2.2.2.2.1, y.2.2.2.2.2.2.2.2.1, y.2.2.2.2.2.2.2.2.2.1⟩ ∧ mr_ y.2.2.2.1 y.1}) (fun y => [(0, .slice pad (List.length p) pcap), (1, .int .i64 bu), (4, zp_ b1 0), (7, zp_ b2 0), (8, zp_ b3 0), (9, zp_ b4 0), (10, .slice aad (List.length (atS p)) acap), (11, zp_ b5 0), (12, .int .i64 (y.1.1 : Int))]) (fun y => ((b1, .cells #[.slice none 0 0, .slice none 0 0] 28 (0, 0)) :: ((b5, .cells #[.slice none 0 0, .slice (some ⟨r1, 0, none⟩) 6 6, .slice (some ⟨r2, 0, none⟩) 4 4, .slice (some ⟨r3, 0, none⟩) 2 2] 98 (0, 0)) :: (y.1.2.2.2.2.1 ++ (y.1.2.2.2.2.2.1 ++ (y.1.2.2.2.2.2.2.1 ++ (y.1.2.2.2.2.2.2.2.1 ++ (y.1.2.2.2.2.2.2.2.2.1 ++ (y.1.2.2.2.2.2.2.2.2.2.1 ++ y.1.2.2.2.2.2.2.2.2.2.2))))))))) (fun y => [az_ (some ⟨r1, 0, none⟩) (List.flatMap fvC (rlV g 1)), az_ (some ⟨r2, 0, none⟩) (List.flatMap fvC (rlV g 2)), az_ (some ⟨r3, 0, none⟩) (List.flatMap fvC (rlV g 3)), az_ aad (List.flatMap aO_ (atS p)), mlF Tryz.prog 171 Ky.val Pc.cells pb (bg_ (uniq [] p)) adr, eD_ g (.cells #[.map (some pb), .slice lad (List.length (aH_ (uniq [] p))) lcap, .map (some kb), .func (.func 55) #[] #[zp_ b2 0, zp_ b3 0, zp_ b4 0], .map (some ab), .map (some ub), .map (some ob), .map (some ib), .map (some rb), .map (some sb), .map (some fb)] 94 (0, 0)), eD_ b3 (.cells #[.int .i64 (m : Int)] 3 (0, 0)), eD_ b2 (.cells #[zp_ g 0] 85 (0, 0)), az_ lad (List.flatMap aO_ (aH_ (uniq [] p))), az_ pad (List.flatMap Pc.cells p), gP_]) (fun y => m + 1 - y.1.1) ⟨((0 : Nat), (emits (bH_ m) (ew_ (aH_ (uniq [] p)) (atS p)) []), ([] : List Fc), Ix.nil, [(ab, .map #[] 0)], [(ub, .map #[] 0)], [(ob, .map #[] 0)], [(ib, .map #[] 0)], [(rb, .map #[] 0)], [(sb, .map #[] 0)], Hs1), lK_ hvk rfl, by exact hS1, ⟨dO_.nil _ _, dO_.nil _ _, dO_.nil _ _, dO_.nil _ _, dO_.nil _ _, dO_.nil _ _⟩, pe_⟩ ⟨rfl, rfl, rfl, rfl, rfl, rfl, rfl, rfl, rfl, trivial⟩ (m_ (f_ (f_ (f_ (f_ (f_ (f_ (f_ i_))))))) (m_ i_ (m_ i_ (m_ i_ (m_ i_ (m_ i_ (m_ i_ (m_ i_ aD_)))))))) (fun _ _ h => h) ?_
    rintro ⟨⟨n, q, fm, x, Ha, Hu, Ho, Hi, Hr, Hm, Hs⟩, hL, hS, hI, hz⟩
    dsimp only at hL hS hI hz ⊢
    obtain ⟨sv1, es1, ce1, ef1, cf1, qf1, Hq1, hHs1, hrQ1, hEk1, hEf1, hqf1⟩ := hS
    subst hHs1
    have hqm := hL.len
    have hnq := hL.le
    obtain ⟨hxl, hyl⟩ := lM_ hz (by omega)
    refine h_ (aj_ (bu_ i_ (bu_ i_ (bu_ (s_ (s_ (s_ (s_ (s_ (s_ i_)))))) (df_ (s_ (s_ (s_ (s_ (s_ (s_ i_)))))))))) (h_ (c_ (a_ (d_ rfl) rfl (a_ (u_ 2 bt_ rfl rfl rfl) rfl (a_ (mc_ hrQ1 G_ rfl) rfl (x_ (av_ rfl rfl) rfl fun r4 hr4 => ?_)))))))
    refine e_ (b_ rfl ?_)
    cases r4
    ·
     replace hr4 := of_decide_eq_false hr4
     refine v_ rfl (au_ rfl (b_ rfl (h_ (h_ ?_))))
     refine aS_ (by kernel_rfl) ?_
     refine ah_ 0 [0, 1, 2, 3, 4, 5, 6] (by kernel_rfl) (fun _ a b => ⟨a, b⟩) (n_ rfl (al_ cA_ rfl (fun v _ h => by exact h.2.2.2.2.2.2.2.1) rfl) rfl (n_ rfl (ar_ rfl) rfl (n_ rfl (l_ J_ rfl rfl rfl bW_) rfl (n_ rfl (al_ cz_ rfl (fun v _ h => by exact h.2.2.2.2.2.1) rfl) rfl (n_ rfl (bC_ (fc_ (E := (EA m hm (EngB.mk g pb ab ub ob ib rb sb lad lcap (aH_ (uniq [] p))) b2 b3 b4 kb fb)) (nw := q) (Hs := ((b4, .cells #[sv1] 26 (0, 0)) :: (kb, .map es1 ce1) :: ([(fb, .map ef1 cf1)] ++ Hq1))) ⟨sv1, es1, ce1, ef1, cf1, qf1, Hq1, rfl, hrQ1, hEk1, hEf1, hqf1⟩ bq_ rfl (m_ (f_ (f_ i_)) (m_ (f_ (f_ i_)) (O_ (f_ (f_ (s_ (s_ (s_ (s_ (s_ (s_ E_)))))))) (f_ (f_ (s_ (s_ (s_ (s_ (s_ bj_))))))))))) (show _ = Value.int .i64 (List.length q : Int) from rfl)) rfl (n_ rfl (al_ P_ rfl (fun v _ h => by exact h.2.2.2.2.2.2.1) rfl) rfl ?_))))))
     refine cl_ rfl (bR_ rfl rfl) rfl fun r5 hr5 => ?_
     refine ag_ (ac_ (by kernel_rfl) (b_ rfl ?_))
     cases r5
     ·
      replace hr5 := of_decide_eq_false hr5
      refine v_ rfl (z_ (b_ rfl (h_ (c_ (a_ (u_ 2 bt_ rfl rfl rfl) rfl (W_ (pO_ hrQ1 (by omega)) rfl (f_ (f_ (f_ (f_ (s_ (s_ (s_ (s_ (s_ (s_ bj_)))))))))) (fun _ _ _ => by exact trivial) rfl fun ⟨Hq9, hq9⟩ => ?_))))))
      dsimp only
      refine e_ (b_ rfl (aj_ (bu_ (s_ i_) (bu_ (s_ i_) (bu_ (s_ i_) (df_ (s_ i_))))) (h_ (bk_ hq9 (f_ (f_ (f_ (f_ E_)))) fun fad fcap hfad hcfad hmfad hzfad => ?_))))
      subst hfad
      refine c_ (a_ (d_ rfl) rfl (a_ (u_ 2 bt_ rfl rfl rfl) rfl (a_ (ap_ ep_ rfl rfl) rfl (Q_ 0 ab_ rfl rfl rfl rfl rfl rfl (a_ (g_ rfl) rfl (e_ (b_ rfl (F_ ?_))))))))
      exact cH_ ⟨((Cl.mk (atS p) aad acap (gU_ q) fad fcap), 0), qz_ hchk hb0 hb1 hm0' ⟨hac, ham, haz, hcfad, hmfad, hzfad⟩ rfl hL (by omega) (by omega) rfl⟩ (fun aa v h1 h2 => de_ (us := Cl.cells (Cl.mk (atS p) aad acap (gU_ q) fad fcap)) 0 dd_ aZ_ ab_ rfl rfl rfl rfl aa v h1 h2) I_ (fun v _ h => by exact ⟨h.2.2.2.2.1, h.1, trivial⟩)
     ·
      replace hr5 := of_decide_eq_true hr5
      refine t_ rfl (h_ (h_ (c_ (a_ (d_ rfl) rfl (x_ (av_ rfl rfl) rfl fun r6 hr6 => ?_)))))
      refine e_ (b_ rfl ?_)
      cases r6
      ·
       replace hr6 := of_decide_eq_false hr6
       refine v_ rfl (z_ (b_ rfl (h_ (c_ (a_ (ap_ ep_ rfl rfl) rfl (Q_ 0 ab_ rfl rfl rfl rfl rfl rfl (a_ (g_ rfl) rfl (e_ (b_ rfl ?_)))))))))
       refine F_ ?_
       exact cH_ ⟨((Cl.mk [] none 0 [] none 0), 2), en_ hchk hb0 hb1 hm0' (by rw [if_neg (by assumption)]) hL.nd hL.der (by omega)⟩ (fun aa v h1 h2 => de_ (us := Cl.cells (Cl.mk [] none 0 [] none 0)) 0 dd_ aZ_ ab_ rfl rfl rfl rfl aa v h1 h2) I_ (fun v _ h => by exact ⟨.inl rfl, .inl rfl, trivial⟩)
      ·
       replace hr6 := of_decide_eq_true hr6
       refine t_ rfl (h_ (c_ (a_ (ap_ ep_ rfl rfl) rfl (Q_ 0 ab_ rfl rfl rfl rfl rfl rfl (a_ (g_ rfl) rfl (e_ (b_ rfl (F_ ?_))))))))
       exact cH_ ⟨((Cl.mk [] none 0 [] none 0), 3), en_ hchk hb0 hb1 hm0' (by rw [if_pos (by assumption)]) hL.nd hL.der (by omega)⟩ (fun aa v h1 h2 => de_ (us := Cl.cells (Cl.mk [] none 0 [] none 0)) 0 dd_ aZ_ ab_ rfl rfl rfl rfl aa v h1 h2) I_ (fun v _ h => by exact ⟨.inl rfl, .inl rfl, trivial⟩)
    ·
     replace hr4 := of_decide_eq_true hr4
     have hlf : n < List.length q := by omega
     obtain ⟨f, hf⟩ : ∃ e0, q[n]? = some e0 := ⟨_, List.getElem?_eq_getElem hlf⟩
     have hmf : f ∈ q := List.mem_of_getElem? hf
     have hfd := hL.der f hmf
     have hform := hfd.form hvk
     obtain ⟨hxl1, hyl1⟩ := lM_ (hw_ hz (decide (f ∈ fm)) f) (by omega)
     refine t_ rfl (z_ (b_ rfl (h_ (R_ (h_ (c_ (a_ (u_ 2 bt_ rfl rfl rfl) rfl (a_ (d_ rfl) rfl (a_ (jI_ hrQ1 G_ B_ rfl rfl (by omega) (by omega)) rfl ?_)))))))))
     refine a_ (hJ_ hrQ1 (f_ (f_ (f_ (f_ (s_ (s_ (s_ (s_ (s_ (s_ bj_)))))))))) ai_ B_ rfl (Fc.cells_len _) (by decide) (ad_ Fc.cells_len hf)) rfl (ao_ ak_ rfl fun b6 => ?_)
     refine Q_ 0 B_ rfl rfl rfl rfl rfl rfl (e_ (b_ rfl (h_ (c_ (a_ (al_ cA_ rfl (fun v _ h => by exact h.2.2.2.2.2.2.2.1) rfl) rfl (a_ (Y_ 0 ai_ B_ rfl rfl rfl) rfl (W_ (ql_ (EngB.mk g pb ab ub ob ib rb sb lad lcap (aH_ (uniq [] p))) (EA m hm (EngB.mk g pb ab ub ob ib rb sb lad lcap (aH_ (uniq [] p))) b2 b3 b4 kb fb) x f q fm ((b4, .cells #[sv1] 26 (0, 0)) :: (kb, .map es1 ce1) :: ([(fb, .map ef1 cf1)] ++ Hq1)) ⟨sv1, es1, ce1, ef1, cf1, qf1, Hq1, rfl, hrQ1, hEk1, hEf1, hqf1⟩ Ha Hu Ho Hi Hr Hm hI hxl hyl) rfl (O_ (f_ (f_ (f_ (f_ (f_ E_))))) (O_ (f_ (f_ (f_ (f_ (f_ E_))))) (O_ (f_ (f_ (f_ (f_ (f_ E_))))) (O_ (f_ (f_ (f_ (f_ (f_ E_))))) (O_ (f_ (f_ (f_ (f_ (f_ E_))))) (O_ (f_ (f_ (f_ (f_ (f_ E_))))) (m_ (f_ (f_ (f_ i_))) (m_ (f_ (f_ (f_ i_))) (O_ (f_ (f_ (f_ E_))) (f_ (f_ S_))))))))))) (fun v _ h => by exact ⟨h.2.2.2.2.2.1, trivial⟩) rfl fun ⟨⟨Ha1, Hu1, Ho1, Hi1, Hr1, Hm1⟩, hI1⟩ => ?_)))))))
     dsimp only
     refine aj_ qb_ (e_ (b_ rfl (aj_ (bu_ (s_ (s_ (s_ (s_ (s_ (s_ i_)))))) (bu_ (s_ (s_ (s_ (s_ (s_ (s_ i_)))))) (bu_ (s_ (s_ (s_ (s_ (s_ (s_ (s_ (s_ i_)))))))) (bu_ (s_ (s_ (s_ (s_ (s_ (s_ (s_ (s_ i_)))))))) (df_ (s_ (s_ (s_ (s_ (s_ (s_ (s_ bj_)))))))))))) (h_ (c_ (a_ (l_ o_ rfl rfl rfl L_) rfl (a_ (u_ 2 P_ rfl rfl rfl) rfl ?_)))))))
     rcases gK_ hform with hk | hk | hk
     ·
      refine a_ (bC_ (fM_ ox_ Tryz.sizeOf97 rfl rfl (by omega) (by omega)) (show _ = zp_ b5 1 from by rw [hk]; rfl)) rfl (a_ (u_ 4 Tryz.isAgg97 rfl rfl rfl) rfl (a_ (am_ cS_ rfl) rfl (a_ (d_ rfl) rfl (e_ (b_ rfl (R_ (fl_ (H' := ((b1, .cells #[.slice none 0 0, .slice none 0 0] 28 (0, 0)) :: ((b5, .cells #[.slice none 0 0, .slice (some ⟨r1, 0, none⟩) 6 6, .slice (some ⟨r2, 0, none⟩) 4 4, .slice (some ⟨r3, 0, none⟩) 2 2] 98 (0, 0)) :: ((b6, .cells (Fc.cells f).toArray 41 (0, 0)) :: (Ha1 ++ (Hu1 ++ (Ho1 ++ (Hi1 ++ (Hr1 ++ (Hm1 ++ ((b4, .cells #[sv1] 26 (0, 0)) :: (kb, .map es1 ce1) :: ([(fb, .map ef1 cf1)] ++ Hq1)))))))))))) (m_ (f_ (f_ (f_ i_))) (m_ (f_ (f_ (f_ i_))) (m_ (f_ (f_ i_)) (O_ (f_ (f_ E_)) (O_ (f_ (f_ E_)) (O_ (f_ (f_ E_)) (O_ (f_ (f_ E_)) (O_ (f_ (f_ E_)) (O_ (f_ (f_ E_)) (m_ i_ (m_ i_ (O_ E_ aD_)))))))))))) (fun v _ h => h) ?_)))))))
      refine aL_ (ι := {y : Nat × Hp // y.1 ≤ 6 ∧ ((EA m hm (EngB.mk g pb ab ub ob ib rb sb lad lcap (aH_ (uniq [] p))) b2 b3 b4 kb fb)).St (rls (bH_ m) idk (bg_ (uniq [] p)) (Ix.add x (decide (f ∈ fm)) f) f y.1 (q, fm)).1 (rls (bH_ m) idk (bg_ (uniq [] p)) (Ix.add x (decide (f ∈ fm)) f) f y.1 (q, fm)).2 y.2 ∧ (y.1 = 0 ∨ ((rls (bH_ m) idk (bg_ (uniq [] p)) (Ix.add x (decide (f ∈ fm)) f) f y.1 (q, fm)).1).length ≤ m)}) (fun y => [(0, .slice pad (List.length p) pcap), (1, .int .i64 bu), (4, zp_ b1 0), (7, zp_ b2 0), (8, zp_ b3 0), (9, zp_ b4 0), (10, .slice aad (List.length (atS p)) acap), (11, zp_ b5 0), (12, .int .i64 (n : Int)), (13, zp_ b6 0), (60, .slice (some ⟨r1, 0, none⟩) 6 6), (61, .int .i64 6), (62, .int .i64 (y.1.1 : Int))]) (fun y => ((b1, .cells #[.slice none 0 0, .slice none 0 0] 28 (0, 0)) :: ((b5, .cells #[.slice none 0 0, .slice (some ⟨r1, 0, none⟩) 6 6, .slice (some ⟨r2, 0, none⟩) 4 4, .slice (some ⟨r3, 0, none⟩) 2 2] 98 (0, 0)) :: ((b6, .cells (Fc.cells f).toArray 41 (0, 0)) :: (Ha1 ++ (Hu1 ++ (Ho1 ++ (Hi1 ++ (Hr1 ++ (Hm1 ++ y.1.2)))))))))) (fun y => [az_ (some ⟨r1, 0, none⟩) (List.flatMap fvC (rlV g 1)), az_ (some ⟨r2, 0, none⟩) (List.flatMap fvC (rlV g 2)), az_ (some ⟨r3, 0, none⟩) (List.flatMap fvC (rlV g 3)), az_ aad (List.flatMap aO_ (atS p)), mlF Tryz.prog 171 Ky.val Pc.cells pb (bg_ (uniq [] p)) adr, eD_ g (.cells #[.map (some pb), .slice lad (List.length (aH_ (uniq [] p))) lcap, .map (some kb), .func (.func 55) #[] #[zp_ b2 0, zp_ b3 0, zp_ b4 0], .map (some ab), .map (some ub), .map (some ob), .map (some ib), .map (some rb), .map (some sb), .map (some fb)] 94 (0, 0)), eD_ b3 (.cells #[.int .i64 (m : Int)] 3 (0, 0)), eD_ b2 (.cells #[zp_ g 0] 85 (0, 0)), az_ lad (List.flatMap aO_ (aH_ (uniq [] p))), az_ pad (List.flatMap Pc.cells p), gP_]) (fun y => 6 - y.1.1) ⟨((0 : Nat), ((b4, .cells #[sv1] 26 (0, 0)) :: (kb, .map es1 ce1) :: ([(fb, .map ef1 cf1)] ++ Hq1))), by omega, by exact ⟨sv1, es1, ce1, ef1, cf1, qf1, Hq1, rfl, hrQ1, hEk1, hEf1, hqf1⟩, .inl rfl⟩ ⟨rfl, rfl, rfl, rfl, rfl, rfl, rfl, rfl, rfl, rfl, rfl, rfl, rfl, trivial⟩ (m_ i_ (m_ i_ (m_ i_ (O_ E_ (O_ E_ (O_ E_ (O_ E_ (O_ E_ (O_ E_ aD_))))))))) (fun _ _ h => h) ?_
      rintro ⟨⟨j, Hs⟩, hj, hS2, hjm⟩
      dsimp only at hj hS2 hjm ⊢
      refine h_ (c_ (x_ (av_ rfl rfl) rfl fun r7 hr7 => ?_))
      refine e_ (b_ rfl (h_ ?_))
      cases r7
      ·
       replace hr7 := of_decide_eq_false hr7
       have ej : j = 6 := by omega
       have hjl : ((rls (bH_ m) idk (bg_ (uniq [] p)) (Ix.add x (decide (f ∈ fm)) f) f j (q, fm)).1).length ≤ m := hjm.resolve_left (by omega)
       rw [ej] at hjl hS2
       refine v_ rfl (au_ rfl (b_ rfl (c_ (a_ (d_ rfl) rfl (a_ (M_ rfl rfl rfl (af_ (by omega) (by omega))) rfl (a_ (g_ rfl) rfl (e_ (w_ rfl ?_))))))))
       exact Z_ ⟨(n + 1, (rls (bH_ m) idk (bg_ (uniq [] p)) (Ix.add x (decide (f ∈ fm)) f) f 6 (q, fm)).1, (rls (bH_ m) idk (bg_ (uniq [] p)) (Ix.add x (decide (f ∈ fm)) f) f 6 (q, fm)).2, (Ix.add x (decide (f ∈ fm)) f), Ha1, Hu1, Ho1, Hi1, Hr1, Hm1, Hs), (gY_ hvk hL hf (by have e : nrl f = 6 := (by unfold nrl; simp [hk]); rw [e]) (by omega)), (by exact hS2), hI1, (hw_ hz _ f)⟩ (by dsimp only; omega) ⟨rfl, rfl, rfl, rfl, rfl, rfl, rfl, rfl, rfl, trivial⟩ (m_ i_ (m_ i_ (O_ (f_ E_) (O_ (f_ E_) (O_ (f_ E_) (O_ (f_ E_) (O_ (f_ E_) (O_ (f_ E_) S_)))))))) (fun _ _ h => h)
      ·
       replace hr7 := of_decide_eq_true hr7
       have hlfv : j < List.length (rlV g 1) := by show j < 6; omega
       obtain ⟨fv, hfv⟩ : ∃ e0, (rlV g 1)[j]? = some e0 := ⟨_, List.getElem?_eq_getElem hlfv⟩
       have hmfv : fv ∈ (rlV g 1) := List.mem_of_getElem? hfv
       refine t_ rfl (z_ (b_ rfl (h_ (R_ (h_ (c_ (a_ (aa_ cS_ be_ rfl rfl (fun v _ h => ay_ (n := 1) gJ_ (by decide) (by exact h.1) hfv) (by omega) (by omega)) rfl (a_ (aN_ (ad := (some ⟨r1, 0, none⟩)) bJ_ rfl (fun v _ h => by exact h.1) (ad_ gJ_ hfv 0 _ rfl)) rfl (a_ (g_ rfl) rfl ?_)))))))))
       refine e_ (b_ rfl (h_ (c_ (a_ (d_ rfl) rfl (a_ (Y_ 2 ai_ B_ rfl rfl rfl) rfl ?_)))))
       obtain ⟨nr, rfl, hT⟩ := pV_ (EngB.mk g pb ab ub ob ib rb sb lad lcap (aH_ (uniq [] p))) (EA m hm (EngB.mk g pb ab ub ob ib rb sb lad lcap (aH_ (uniq [] p))) b2 b3 b4 kb fb) (EngA.mk adr (fun _ => (none, 0)) (fun _ => (none, 0)) (fun _ => (none, 0)) (fun _ => (none, 0)) (fun _ => (none, 0)) (fun _ => (none, 0))) (bg_ (uniq [] p)) (Ix.add x (decide (f ∈ fm)) f) f (rls (bH_ m) idk (bg_ (uniq [] p)) (Ix.add x (decide (f ∈ fm)) f) f j (q, fm)).1 (rls (bH_ m) idk (bg_ (uniq [] p)) (Ix.add x (decide (f ∈ fm)) f) f j (q, fm)).2 Hs hS2 Ha1 Hu1 Ho1 Hi1 Hr1 Hm1 hI1 hpl hxl1 hyl1 (fun hk => (gg_ hform hk).2.2) (fun _ y hy => (hvk y (pm9.1 hy).1).num (.inr (pm9.1 hy).2.1)) hk j hfv
       refine bh_ (first := [zp_ g 0]) (vs := [Fc.val f]) (cap := []) hT rfl rfl (ml_ (O_ (f_ (f_ (f_ E_))) (O_ (f_ (f_ (f_ E_))) (O_ (f_ (f_ (f_ E_))) (O_ (f_ (f_ (f_ E_))) (O_ (f_ (f_ (f_ E_))) (O_ (f_ (f_ (f_ E_))) (f_ (f_ S_))))))))) (fun v _ h => by exact ⟨h.2.2.2.2.2.1, h.2.2.2.2.1, ⟨h.2.2.2.2.2.2.2.1, h.2.2.2.2.2.2.1, h.2.2.2.2.2.1⟩, trivial⟩) rfl fun ⟨Hs3, hS3⟩ => ?_
       refine aj_ kv_ (e_ (b_ rfl (aj_ (bu_ (s_ (s_ (s_ (s_ (s_ (s_ (s_ i_))))))) (bu_ (s_ (s_ (s_ (s_ (s_ (s_ (s_ i_))))))) (df_ (s_ (s_ (s_ (s_ (s_ (s_ bj_))))))))) (h_ ?_))))
       refine aS_ (by kernel_rfl) ?_
       refine ah_ 0 [0, 1, 2, 3, 4, 5, 6] (by kernel_rfl) (fun _ a b => ⟨a, b⟩) (n_ rfl (al_ cA_ rfl (fun v _ h => by exact h.2.2.2.2.2.2.2.1) rfl) rfl (n_ rfl (ar_ rfl) rfl (n_ rfl (l_ J_ rfl rfl rfl bW_) rfl (n_ rfl (al_ cz_ rfl (fun v _ h => by exact h.2.2.2.2.2.1) rfl) rfl (n_ rfl (bC_ (fc_ (E := (EA m hm (EngB.mk g pb ab ub ob ib rb sb lad lcap (aH_ (uniq [] p))) b2 b3 b4 kb fb)) (nw := (rls (bH_ m) idk (bg_ (uniq [] p)) (Ix.add x (decide (f ∈ fm)) f) f (j + 1) (q, fm)).1) (Hs := Hs3) hS3 bq_ rfl (f_ (f_ (f_ (s_ (s_ (s_ (s_ (s_ bj_))))))))) (show _ = Value.int .i64 (List.length (rls (bH_ m) idk (bg_ (uniq [] p)) (Ix.add x (decide (f ∈ fm)) f) f (j + 1) (q, fm)).1 : Int) from rfl)) rfl (n_ rfl (al_ P_ rfl (fun v _ h => by exact h.2.2.2.2.2.2.1) rfl) rfl ?_))))))
       refine cl_ rfl (bR_ rfl rfl) rfl fun r8 hr8 => ?_
       refine ag_ (ac_ (by kernel_rfl) (b_ rfl ?_))
       cases r8
       ·
        replace hr8 := of_decide_eq_false hr8
        refine v_ rfl (z_ (b_ rfl (c_ (a_ (M_ rfl rfl rfl (af_ (by omega) (by omega))) rfl (a_ (d_ rfl) rfl (e_ (w_ rfl ?_)))))))
        exact Z_ ⟨(j + 1, Hs3), hlfv, by exact hS3, .inr (by dsimp only; omega)⟩ (by dsimp only; omega) ⟨rfl, rfl, rfl, rfl, rfl, rfl, rfl, rfl, rfl, rfl, rfl, rfl, rfl, trivial⟩ (m_ i_ (m_ i_ (m_ i_ (O_ E_ (O_ E_ (O_ E_ (O_ E_ (O_ E_ (O_ E_ aD_))))))))) (fun _ _ h => h)
       ·
        replace hr8 := of_decide_eq_true hr8
        refine t_ rfl (au_ rfl (b_ rfl (h_ (h_ ?_))))
        refine aS_ (by kernel_rfl) ?_
        refine ah_ 0 [0, 1, 2, 3, 4, 5, 6] (by kernel_rfl) (fun _ a b => ⟨a, b⟩) (n_ rfl (al_ cA_ rfl (fun v _ h => by exact h.2.2.2.2.2.2.2.1) rfl) rfl (n_ rfl (ar_ rfl) rfl (n_ rfl (l_ J_ rfl rfl rfl bW_) rfl (n_ rfl (al_ cz_ rfl (fun v _ h => by exact h.2.2.2.2.2.1) rfl) rfl (n_ rfl (bC_ (fc_ (E := (EA m hm (EngB.mk g pb ab ub ob ib rb sb lad lcap (aH_ (uniq [] p))) b2 b3 b4 kb fb)) (nw := (rls (bH_ m) idk (bg_ (uniq [] p)) (Ix.add x (decide (f ∈ fm)) f) f (j + 1) (q, fm)).1) (Hs := Hs3) hS3 bq_ rfl (f_ (f_ (f_ (s_ (s_ (s_ (s_ (s_ bj_))))))))) (show _ = Value.int .i64 (List.length (rls (bH_ m) idk (bg_ (uniq [] p)) (Ix.add x (decide (f ∈ fm)) f) f (j + 1) (q, fm)).1 : Int) from rfl)) rfl (n_ rfl (al_ P_ rfl (fun v _ h => by exact h.2.2.2.2.2.2.1) rfl) rfl ?_))))))
        refine cl_ rfl (bR_ rfl rfl) rfl fun r9 hr9 => ?_
        refine ag_ (ac_ (by kernel_rfl) (b_ rfl ?_))
        cases r9
        ·
         replace hr9 := of_decide_eq_false hr9
         omega
        ·
         replace hr9 := of_decide_eq_true hr9
         refine t_ rfl (h_ (h_ (c_ (a_ (d_ rfl) rfl (x_ (av_ rfl rfl) rfl fun r10 hr10 => ?_)))))
         refine e_ (b_ rfl ?_)
         cases r10
         ·
          replace hr10 := of_decide_eq_false hr10
          refine v_ rfl (z_ (b_ rfl (h_ (c_ (a_ (ap_ ep_ rfl rfl) rfl (Q_ 0 ab_ rfl rfl rfl rfl rfl rfl (a_ (g_ rfl) rfl (e_ (b_ rfl ?_)))))))))
          refine F_ ?_
          exact cH_ ⟨((Cl.mk [] none 0 [] none 0), 2), en_ hchk hb0 hb1 hm0' (by rw [if_neg (by assumption)]) (cJ_ hvk hL hf (j + 1) rfl).1 (cJ_ hvk hL hf (j + 1) rfl).2.2.1 (by omega)⟩ (fun aa v h1 h2 => de_ (us := Cl.cells (Cl.mk [] none 0 [] none 0)) 0 dd_ aZ_ ab_ rfl rfl rfl rfl aa v h1 h2) I_ (fun v _ h => by exact ⟨.inl rfl, .inl rfl, trivial⟩)
         ·
          replace hr10 := of_decide_eq_true hr10
          refine t_ rfl (h_ (c_ (a_ (ap_ ep_ rfl rfl) rfl (Q_ 0 ab_ rfl rfl rfl rfl rfl rfl (a_ (g_ rfl) rfl (e_ (b_ rfl (F_ ?_))))))))
          exact cH_ ⟨((Cl.mk [] none 0 [] none 0), 3), en_ hchk hb0 hb1 hm0' (by rw [if_pos (by assumption)]) (cJ_ hvk hL hf (j + 1) rfl).1 (cJ_ hvk hL hf (j + 1) rfl).2.2.1 (by omega)⟩ (fun aa v h1 h2 => de_ (us := Cl.cells (Cl.mk [] none 0 [] none 0)) 0 dd_ aZ_ ab_ rfl rfl rfl rfl aa v h1 h2) I_ (fun v _ h => by exact ⟨.inl rfl, .inl rfl, trivial⟩)
     ·
      refine a_ (bC_ (fM_ ox_ Tryz.sizeOf97 rfl rfl (by omega) (by omega)) (show _ = zp_ b5 2 from by rw [hk]; rfl)) rfl (a_ (u_ 4 Tryz.isAgg97 rfl rfl rfl) rfl (a_ (am_ cS_ rfl) rfl (a_ (d_ rfl) rfl (e_ (b_ rfl (R_ (fl_ (H' := ((b1, .cells #[.slice none 0 0, .slice none 0 0] 28 (0, 0)) :: ((b5, .cells #[.slice none 0 0, .slice (some ⟨r1, 0, none⟩) 6 6, .slice (some ⟨r2, 0, none⟩) 4 4, .slice (some ⟨r3, 0, none⟩) 2 2] 98 (0, 0)) :: ((b6, .cells (Fc.cells f).toArray 41 (0, 0)) :: (Ha1 ++ (Hu1 ++ (Ho1 ++ (Hi1 ++ (Hr1 ++ (Hm1 ++ ((b4, .cells #[sv1] 26 (0, 0)) :: (kb, .map es1 ce1) :: ([(fb, .map ef1 cf1)] ++ Hq1)))))))))))) (m_ (f_ (f_ (f_ i_))) (m_ (f_ (f_ (f_ i_))) (m_ (f_ (f_ i_)) (O_ (f_ (f_ E_)) (O_ (f_ (f_ E_)) (O_ (f_ (f_ E_)) (O_ (f_ (f_ E_)) (O_ (f_ (f_ E_)) (O_ (f_ (f_ E_)) (m_ i_ (m_ i_ (O_ E_ aD_)))))))))))) (fun v _ h => h) ?_)))))))
      refine aL_ (ι := {y : Nat × Hp // y.1 ≤ 4 ∧ ((EA m hm (EngB.mk g pb ab ub ob ib rb sb lad lcap (aH_ (uniq [] p))) b2 b3 b4 kb fb)).St (rls (bH_ m) idk (bg_ (uniq [] p)) (Ix.add x (decide (f ∈ fm)) f) f y.1 (q, fm)).1 (rls (bH_ m) idk (bg_ (uniq [] p)) (Ix.add x (decide (f ∈ fm)) f) f y.1 (q, fm)).2 y.2 ∧ (y.1 = 0 ∨ ((rls (bH_ m) idk (bg_ (uniq [] p)) (Ix.add x (decide (f ∈ fm)) f) f y.1 (q, fm)).1).length ≤ m)}) (fun y => [(0, .slice pad (List.length p) pcap), (1, .int .i64 bu), (4, zp_ b1 0), (7, zp_ b2 0), (8, zp_ b3 0), (9, zp_ b4 0), (10, .slice aad (List.length (atS p)) acap), (11, zp_ b5 0), (12, .int .i64 (n : Int)), (13, zp_ b6 0), (60, .slice (some ⟨r2, 0, none⟩) 4 4), (61, .int .i64 4), (62, .int .i64 (y.1.1 : Int))]) (fun y => ((b1, .cells #[.slice none 0 0, .slice none 0 0] 28 (0, 0)) :: ((b5, .cells #[.slice none 0 0, .slice (some ⟨r1, 0, none⟩) 6 6, .slice (some ⟨r2, 0, none⟩) 4 4, .slice (some ⟨r3, 0, none⟩) 2 2] 98 (0, 0)) :: ((b6, .cells (Fc.cells f).toArray 41 (0, 0)) :: (Ha1 ++ (Hu1 ++ (Ho1 ++ (Hi1 ++ (Hr1 ++ (Hm1 ++ y.1.2)))))))))) (fun y => [az_ (some ⟨r1, 0, none⟩) (List.flatMap fvC (rlV g 1)), az_ (some ⟨r2, 0, none⟩) (List.flatMap fvC (rlV g 2)), az_ (some ⟨r3, 0, none⟩) (List.flatMap fvC (rlV g 3)), az_ aad (List.flatMap aO_ (atS p)), mlF Tryz.prog 171 Ky.val Pc.cells pb (bg_ (uniq [] p)) adr, eD_ g (.cells #[.map (some pb), .slice lad (List.length (aH_ (uniq [] p))) lcap, .map (some kb), .func (.func 55) #[] #[zp_ b2 0, zp_ b3 0, zp_ b4 0], .map (some ab), .map (some ub), .map (some ob), .map (some ib), .map (some rb), .map (some sb), .map (some fb)] 94 (0, 0)), eD_ b3 (.cells #[.int .i64 (m : Int)] 3 (0, 0)), eD_ b2 (.cells #[zp_ g 0] 85 (0, 0)), az_ lad (List.flatMap aO_ (aH_ (uniq [] p))), az_ pad (List.flatMap Pc.cells p), gP_]) (fun y => 4 - y.1.1) ⟨((0 : Nat), ((b4, .cells #[sv1] 26 (0, 0)) :: (kb, .map es1 ce1) :: ([(fb, .map ef1 cf1)] ++ Hq1))), by omega, by exact ⟨sv1, es1, ce1, ef1, cf1, qf1, Hq1, rfl, hrQ1, hEk1, hEf1, hqf1⟩, .inl rfl⟩ ⟨rfl, rfl, rfl, rfl, rfl, rfl, rfl, rfl, rfl, rfl, rfl, rfl, rfl, trivial⟩ (m_ i_ (m_ i_ (m_ i_ (O_ E_ (O_ E_ (O_ E_ (O_ E_ (O_ E_ (O_ E_ aD_))))))))) (fun _ _ h => h) ?_
      rintro ⟨⟨j, Hs⟩, hj, hS2, hjm⟩
      dsimp only at hj hS2 hjm ⊢
      refine h_ (c_ (x_ (av_ rfl rfl) rfl fun r11 hr11 => ?_))
      refine e_ (b_ rfl (h_ ?_))
      cases r11
      ·
       replace hr11 := of_decide_eq_false hr11
       have ej : j = 4 := by omega
       have hjl : ((rls (bH_ m) idk (bg_ (uniq [] p)) (Ix.add x (decide (f ∈ fm)) f) f j (q, fm)).1).length ≤ m := hjm.resolve_left (by omega)
       rw [ej] at hjl hS2
       refine v_ rfl (au_ rfl (b_ rfl (c_ (a_ (d_ rfl) rfl (a_ (M_ rfl rfl rfl (af_ (by omega) (by omega))) rfl (a_ (g_ rfl) rfl (e_ (w_ rfl ?_))))))))
       exact Z_ ⟨(n + 1, (rls (bH_ m) idk (bg_ (uniq [] p)) (Ix.add x (decide (f ∈ fm)) f) f 4 (q, fm)).1, (rls (bH_ m) idk (bg_ (uniq [] p)) (Ix.add x (decide (f ∈ fm)) f) f 4 (q, fm)).2, (Ix.add x (decide (f ∈ fm)) f), Ha1, Hu1, Ho1, Hi1, Hr1, Hm1, Hs), (gY_ hvk hL hf (by have e : nrl f = 4 := (by unfold nrl; simp [hk]); rw [e]) (by omega)), (by exact hS2), hI1, (hw_ hz _ f)⟩ (by dsimp only; omega) ⟨rfl, rfl, rfl, rfl, rfl, rfl, rfl, rfl, rfl, trivial⟩ (m_ i_ (m_ i_ (O_ (f_ E_) (O_ (f_ E_) (O_ (f_ E_) (O_ (f_ E_) (O_ (f_ E_) (O_ (f_ E_) S_)))))))) (fun _ _ h => h)
      ·
       replace hr11 := of_decide_eq_true hr11
       have hlfv : j < List.length (rlV g 2) := by show j < 4; omega
       obtain ⟨fv, hfv⟩ : ∃ e0, (rlV g 2)[j]? = some e0 := ⟨_, List.getElem?_eq_getElem hlfv⟩
       have hmfv : fv ∈ (rlV g 2) := List.mem_of_getElem? hfv
       refine t_ rfl (z_ (b_ rfl (h_ (R_ (h_ (c_ (a_ (aa_ cS_ be_ rfl rfl (fun v _ h => ay_ (n := 1) gJ_ (by decide) (by exact h.2.1) hfv) (by omega) (by omega)) rfl (a_ (aN_ (ad := (some ⟨r2, 0, none⟩)) bJ_ rfl (fun v _ h => by exact h.2.1) (ad_ gJ_ hfv 0 _ rfl)) rfl (a_ (g_ rfl) rfl ?_)))))))))
       refine e_ (b_ rfl (h_ (c_ (a_ (d_ rfl) rfl (a_ (Y_ 2 ai_ B_ rfl rfl rfl) rfl ?_)))))
       obtain ⟨nr, rfl, hT⟩ := pU_ (EngB.mk g pb ab ub ob ib rb sb lad lcap (aH_ (uniq [] p))) (EA m hm (EngB.mk g pb ab ub ob ib rb sb lad lcap (aH_ (uniq [] p))) b2 b3 b4 kb fb) (EngA.mk adr (fun _ => (none, 0)) (fun _ => (none, 0)) (fun _ => (none, 0)) (fun _ => (none, 0)) (fun _ => (none, 0)) (fun _ => (none, 0))) (bg_ (uniq [] p)) (Ix.add x (decide (f ∈ fm)) f) f (rls (bH_ m) idk (bg_ (uniq [] p)) (Ix.add x (decide (f ∈ fm)) f) f j (q, fm)).1 (rls (bH_ m) idk (bg_ (uniq [] p)) (Ix.add x (decide (f ∈ fm)) f) f j (q, fm)).2 Hs hS2 Ha1 Hu1 Ho1 Hi1 Hr1 Hm1 hI1 hpl hxl1 hyl1 (fun hk => (gg_ hform hk).2.2) (fun _ y hy => (hvk y (pm9.1 hy).1).num (.inr (pm9.1 hy).2.1)) hk j hfv
       refine bh_ (first := [zp_ g 0]) (vs := [Fc.val f]) (cap := []) hT rfl rfl (ml_ (O_ (f_ (f_ (f_ E_))) (O_ (f_ (f_ (f_ E_))) (O_ (f_ (f_ (f_ E_))) (O_ (f_ (f_ (f_ E_))) (O_ (f_ (f_ (f_ E_))) (O_ (f_ (f_ (f_ E_))) (f_ (f_ S_))))))))) (fun v _ h => by exact ⟨h.2.2.2.2.2.1, h.2.2.2.2.1, ⟨h.2.2.2.2.2.2.2.1, h.2.2.2.2.2.2.1, h.2.2.2.2.2.1⟩, trivial⟩) rfl fun ⟨Hs3, hS3⟩ => ?_
       refine aj_ kv_ (e_ (b_ rfl (aj_ (bu_ (s_ (s_ (s_ (s_ (s_ (s_ (s_ i_))))))) (bu_ (s_ (s_ (s_ (s_ (s_ (s_ (s_ i_))))))) (df_ (s_ (s_ (s_ (s_ (s_ (s_ bj_))))))))) (h_ ?_))))
       refine aS_ (by kernel_rfl) ?_
       refine ah_ 0 [0, 1, 2, 3, 4, 5, 6] (by kernel_rfl) (fun _ a b => ⟨a, b⟩) (n_ rfl (al_ cA_ rfl (fun v _ h => by exact h.2.2.2.2.2.2.2.1) rfl) rfl (n_ rfl (ar_ rfl) rfl (n_ rfl (l_ J_ rfl rfl rfl bW_) rfl (n_ rfl (al_ cz_ rfl (fun v _ h => by exact h.2.2.2.2.2.1) rfl) rfl (n_ rfl (bC_ (fc_ (E := (EA m hm (EngB.mk g pb ab ub ob ib rb sb lad lcap (aH_ (uniq [] p))) b2 b3 b4 kb fb)) (nw := (rls (bH_ m) idk (bg_ (uniq [] p)) (Ix.add x (decide (f ∈ fm)) f) f (j + 1) (q, fm)).1) (Hs := Hs3) hS3 bq_ rfl (f_ (f_ (f_ (s_ (s_ (s_ (s_ (s_ bj_))))))))) (show _ = Value.int .i64 (List.length (rls (bH_ m) idk (bg_ (uniq [] p)) (Ix.add x (decide (f ∈ fm)) f) f (j + 1) (q, fm)).1 : Int) from rfl)) rfl (n_ rfl (al_ P_ rfl (fun v _ h => by exact h.2.2.2.2.2.2.1) rfl) rfl ?_))))))
       refine cl_ rfl (bR_ rfl rfl) rfl fun r12 hr12 => ?_
       refine ag_ (ac_ (by kernel_rfl) (b_ rfl ?_))
       cases r12
       ·
        replace hr12 := of_decide_eq_false hr12
        refine v_ rfl (z_ (b_ rfl (c_ (a_ (M_ rfl rfl rfl (af_ (by omega) (by omega))) rfl (a_ (d_ rfl) rfl (e_ (w_ rfl ?_)))))))
        exact Z_ ⟨(j + 1, Hs3), hlfv, by exact hS3, .inr (by dsimp only; omega)⟩ (by dsimp only; omega) ⟨rfl, rfl, rfl, rfl, rfl, rfl, rfl, rfl, rfl, rfl, rfl, rfl, rfl, trivial⟩ (m_ i_ (m_ i_ (m_ i_ (O_ E_ (O_ E_ (O_ E_ (O_ E_ (O_ E_ (O_ E_ aD_))))))))) (fun _ _ h => h)
       ·
        replace hr12 := of_decide_eq_true hr12
        refine t_ rfl (au_ rfl (b_ rfl (h_ (h_ ?_))))
        refine aS_ (by kernel_rfl) ?_
        refine ah_ 0 [0, 1, 2, 3, 4, 5, 6] (by kernel_rfl) (fun _ a b => ⟨a, b⟩) (n_ rfl (al_ cA_ rfl (fun v _ h => by exact h.2.2.2.2.2.2.2.1) rfl) rfl (n_ rfl (ar_ rfl) rfl (n_ rfl (l_ J_ rfl rfl rfl bW_) rfl (n_ rfl (al_ cz_ rfl (fun v _ h => by exact h.2.2.2.2.2.1) rfl) rfl (n_ rfl (bC_ (fc_ (E := (EA m hm (EngB.mk g pb ab ub ob ib rb sb lad lcap (aH_ (uniq [] p))) b2 b3 b4 kb fb)) (nw := (rls (bH_ m) idk (bg_ (uniq [] p)) (Ix.add x (decide (f ∈ fm)) f) f (j + 1) (q, fm)).1) (Hs := Hs3) hS3 bq_ rfl (f_ (f_ (f_ (s_ (s_ (s_ (s_ (s_ bj_))))))))) (show _ = Value.int .i64 (List.length (rls (bH_ m) idk (bg_ (uniq [] p)) (Ix.add x (decide (f ∈ fm)) f) f (j + 1) (q, fm)).1 : Int) from rfl)) rfl (n_ rfl (al_ P_ rfl (fun v _ h => by exact h.2.2.2.2.2.2.1) rfl) rfl ?_))))))
        refine cl_ rfl (bR_ rfl rfl) rfl fun r13 hr13 => ?_
        refine ag_ (ac_ (by kernel_rfl) (b_ rfl ?_))
        cases r13
        ·
         replace hr13 := of_decide_eq_false hr13
         omega
        ·
         replace hr13 := of_decide_eq_true hr13
         refine t_ rfl (h_ (h_ (c_ (a_ (d_ rfl) rfl (x_ (av_ rfl rfl) rfl fun r14 hr14 => ?_)))))
         refine e_ (b_ rfl ?_)
         cases r14
         ·
          replace hr14 := of_decide_eq_false hr14
          refine v_ rfl (z_ (b_ rfl (h_ (c_ (a_ (ap_ ep_ rfl rfl) rfl (Q_ 0 ab_ rfl rfl rfl rfl rfl rfl (a_ (g_ rfl) rfl (e_ (b_ rfl ?_)))))))))
          refine F_ ?_
          exact cH_ ⟨((Cl.mk [] none 0 [] none 0), 2), en_ hchk hb0 hb1 hm0' (by rw [if_neg (by assumption)]) (cJ_ hvk hL hf (j + 1) rfl).1 (cJ_ hvk hL hf (j + 1) rfl).2.2.1 (by omega)⟩ (fun aa v h1 h2 => de_ (us := Cl.cells (Cl.mk [] none 0 [] none 0)) 0 dd_ aZ_ ab_ rfl rfl rfl rfl aa v h1 h2) I_ (fun v _ h => by exact ⟨.inl rfl, .inl rfl, trivial⟩)
         ·
          replace hr14 := of_decide_eq_true hr14
          refine t_ rfl (h_ (c_ (a_ (ap_ ep_ rfl rfl) rfl (Q_ 0 ab_ rfl rfl rfl rfl rfl rfl (a_ (g_ rfl) rfl (e_ (b_ rfl (F_ ?_))))))))
          exact cH_ ⟨((Cl.mk [] none 0 [] none 0), 3), en_ hchk hb0 hb1 hm0' (by rw [if_pos (by assumption)]) (cJ_ hvk hL hf (j + 1) rfl).1 (cJ_ hvk hL hf (j + 1) rfl).2.2.1 (by omega)⟩ (fun aa v h1 h2 => de_ (us := Cl.cells (Cl.mk [] none 0 [] none 0)) 0 dd_ aZ_ ab_ rfl rfl rfl rfl aa v h1 h2) I_ (fun v _ h => by exact ⟨.inl rfl, .inl rfl, trivial⟩)
     ·
      refine a_ (bC_ (fM_ ox_ Tryz.sizeOf97 rfl rfl (by omega) (by omega)) (show _ = zp_ b5 3 from by rw [hk]; rfl)) rfl (a_ (u_ 4 Tryz.isAgg97 rfl rfl rfl) rfl (a_ (am_ cS_ rfl) rfl (a_ (d_ rfl) rfl (e_ (b_ rfl (R_ (fl_ (H' := ((b1, .cells #[.slice none 0 0, .slice none 0 0] 28 (0, 0)) :: ((b5, .cells #[.slice none 0 0, .slice (some ⟨r1, 0, none⟩) 6 6, .slice (some ⟨r2, 0, none⟩) 4 4, .slice (some ⟨r3, 0, none⟩) 2 2] 98 (0, 0)) :: ((b6, .cells (Fc.cells f).toArray 41 (0, 0)) :: (Ha1 ++ (Hu1 ++ (Ho1 ++ (Hi1 ++ (Hr1 ++ (Hm1 ++ ((b4, .cells #[sv1] 26 (0, 0)) :: (kb, .map es1 ce1) :: ([(fb, .map ef1 cf1)] ++ Hq1)))))))))))) (m_ (f_ (f_ (f_ i_))) (m_ (f_ (f_ (f_ i_))) (m_ (f_ (f_ i_)) (O_ (f_ (f_ E_)) (O_ (f_ (f_ E_)) (O_ (f_ (f_ E_)) (O_ (f_ (f_ E_)) (O_ (f_ (f_ E_)) (O_ (f_ (f_ E_)) (m_ i_ (m_ i_ (O_ E_ aD_)))))))))))) (fun v _ h => h) ?_)))))))
      refine aL_ (ι := {y : Nat × Hp // y.1 ≤ 2 ∧ ((EA m hm (EngB.mk g pb ab ub ob ib rb sb lad lcap (aH_ (uniq [] p))) b2 b3 b4 kb fb)).St (rls (bH_ m) idk (bg_ (uniq [] p)) (Ix.add x (decide (f ∈ fm)) f) f y.1 (q, fm)).1 (rls (bH_ m) idk (bg_ (uniq [] p)) (Ix.add x (decide (f ∈ fm)) f) f y.1 (q, fm)).2 y.2 ∧ (y.1 = 0 ∨ ((rls (bH_ m) idk (bg_ (uniq [] p)) (Ix.add x (decide (f ∈ fm)) f) f y.1 (q, fm)).1).length ≤ m)}) (fun y => [(0, .slice pad (List.length p) pcap), (1, .int .i64 bu), (4, zp_ b1 0), (7, zp_ b2 0), (8, zp_ b3 0), (9, zp_ b4 0), (10, .slice aad (List.length (atS p)) acap), (11, zp_ b5 0), (12, .int .i64 (n : Int)), (13, zp_ b6 0), (60, .slice (some ⟨r3, 0, none⟩) 2 2), (61, .int .i64 2), (62, .int .i64 (y.1.1 : Int))]) (fun y => ((b1, .cells #[.slice none 0 0, .slice none 0 0] 28 (0, 0)) :: ((b5, .cells #[.slice none 0 0, .slice (some ⟨r1, 0, none⟩) 6 6, .slice (some ⟨r2, 0, none⟩) 4 4, .slice (some ⟨r3, 0, none⟩) 2 2] 98 (0, 0)) :: ((b6, .cells (Fc.cells f).toArray 41 (0, 0)) :: (Ha1 ++ (Hu1 ++ (Ho1 ++ (Hi1 ++ (Hr1 ++ (Hm1 ++ y.1.2)))))))))) (fun y => [az_ (some ⟨r1, 0, none⟩) (List.flatMap fvC (rlV g 1)), az_ (some ⟨r2, 0, none⟩) (List.flatMap fvC (rlV g 2)), az_ (some ⟨r3, 0, none⟩) (List.flatMap fvC (rlV g 3)), az_ aad (List.flatMap aO_ (atS p)), mlF Tryz.prog 171 Ky.val Pc.cells pb (bg_ (uniq [] p)) adr, eD_ g (.cells #[.map (some pb), .slice lad (List.length (aH_ (uniq [] p))) lcap, .map (some kb), .func (.func 55) #[] #[zp_ b2 0, zp_ b3 0, zp_ b4 0], .map (some ab), .map (some ub), .map (some ob), .map (some ib), .map (some rb), .map (some sb), .map (some fb)] 94 (0, 0)), eD_ b3 (.cells #[.int .i64 (m : Int)] 3 (0, 0)), eD_ b2 (.cells #[zp_ g 0] 85 (0, 0)), az_ lad (List.flatMap aO_ (aH_ (uniq [] p))), az_ pad (List.flatMap Pc.cells p), gP_]) (fun y => 2 - y.1.1) ⟨((0 : Nat), ((b4, .cells #[sv1] 26 (0, 0)) :: (kb, .map es1 ce1) :: ([(fb, .map ef1 cf1)] ++ Hq1))), by omega, by exact ⟨sv1, es1, ce1, ef1, cf1, qf1, Hq1, rfl, hrQ1, hEk1, hEf1, hqf1⟩, .inl rfl⟩ ⟨rfl, rfl, rfl, rfl, rfl, rfl, rfl, rfl, rfl, rfl, rfl, rfl, rfl, trivial⟩ (m_ i_ (m_ i_ (m_ i_ (O_ E_ (O_ E_ (O_ E_ (O_ E_ (O_ E_ (O_ E_ aD_))))))))) (fun _ _ h => h) ?_
      rintro ⟨⟨j, Hs⟩, hj, hS2, hjm⟩
      dsimp only at hj hS2 hjm ⊢
      refine h_ (c_ (x_ (av_ rfl rfl) rfl fun r15 hr15 => ?_))
      refine e_ (b_ rfl (h_ ?_))
      cases r15
      ·
       replace hr15 := of_decide_eq_false hr15
       have ej : j = 2 := by omega
       have hjl : ((rls (bH_ m) idk (bg_ (uniq [] p)) (Ix.add x (decide (f ∈ fm)) f) f j (q, fm)).1).length ≤ m := hjm.resolve_left (by omega)
       rw [ej] at hjl hS2
       refine v_ rfl (au_ rfl (b_ rfl (c_ (a_ (d_ rfl) rfl (a_ (M_ rfl rfl rfl (af_ (by omega) (by omega))) rfl (a_ (g_ rfl) rfl (e_ (w_ rfl ?_))))))))
       exact Z_ ⟨(n + 1, (rls (bH_ m) idk (bg_ (uniq [] p)) (Ix.add x (decide (f ∈ fm)) f) f 2 (q, fm)).1, (rls (bH_ m) idk (bg_ (uniq [] p)) (Ix.add x (decide (f ∈ fm)) f) f 2 (q, fm)).2, (Ix.add x (decide (f ∈ fm)) f), Ha1, Hu1, Ho1, Hi1, Hr1, Hm1, Hs), (gY_ hvk hL hf (by have e : nrl f = 2 := (by unfold nrl; simp [hk]); rw [e]) (by omega)), (by exact hS2), hI1, (hw_ hz _ f)⟩ (by dsimp only; omega) ⟨rfl, rfl, rfl, rfl, rfl, rfl, rfl, rfl, rfl, trivial⟩ (m_ i_ (m_ i_ (O_ (f_ E_) (O_ (f_ E_) (O_ (f_ E_) (O_ (f_ E_) (O_ (f_ E_) (O_ (f_ E_) S_)))))))) (fun _ _ h => h)
      ·
       replace hr15 := of_decide_eq_true hr15
       have hlfv : j < List.length (rlV g 3) := by show j < 2; omega
       obtain ⟨fv, hfv⟩ : ∃ e0, (rlV g 3)[j]? = some e0 := ⟨_, List.getElem?_eq_getElem hlfv⟩
       have hmfv : fv ∈ (rlV g 3) := List.mem_of_getElem? hfv
       refine t_ rfl (z_ (b_ rfl (h_ (R_ (h_ (c_ (a_ (aa_ cS_ be_ rfl rfl (fun v _ h => ay_ (n := 1) gJ_ (by decide) (by exact h.2.2.1) hfv) (by omega) (by omega)) rfl (a_ (aN_ (ad := (some ⟨r3, 0, none⟩)) bJ_ rfl (fun v _ h => by exact h.2.2.1) (ad_ gJ_ hfv 0 _ rfl)) rfl (a_ (g_ rfl) rfl ?_)))))))))
       refine e_ (b_ rfl (h_ (c_ (a_ (d_ rfl) rfl (a_ (Y_ 2 ai_ B_ rfl rfl rfl) rfl ?_)))))
       obtain ⟨nr, rfl, hT⟩ := pT_ (EngB.mk g pb ab ub ob ib rb sb lad lcap (aH_ (uniq [] p))) (EA m hm (EngB.mk g pb ab ub ob ib rb sb lad lcap (aH_ (uniq [] p))) b2 b3 b4 kb fb) (EngA.mk adr (fun _ => (none, 0)) (fun _ => (none, 0)) (fun _ => (none, 0)) (fun _ => (none, 0)) (fun _ => (none, 0)) (fun _ => (none, 0))) (bg_ (uniq [] p)) (Ix.add x (decide (f ∈ fm)) f) f (rls (bH_ m) idk (bg_ (uniq [] p)) (Ix.add x (decide (f ∈ fm)) f) f j (q, fm)).1 (rls (bH_ m) idk (bg_ (uniq [] p)) (Ix.add x (decide (f ∈ fm)) f) f j (q, fm)).2 Hs hS2 Ha1 Hu1 Ho1 Hi1 Hr1 Hm1 hI1 hpl hxl1 hyl1 (fun hk => (gg_ hform hk).2.2) (fun _ y hy => (hvk y (pm9.1 hy).1).num (.inr (pm9.1 hy).2.1)) hk j hfv
       refine bh_ (first := [zp_ g 0]) (vs := [Fc.val f]) (cap := []) hT rfl rfl (ml_ (O_ (f_ (f_ (f_ E_))) (O_ (f_ (f_ (f_ E_))) (O_ (f_ (f_ (f_ E_))) (O_ (f_ (f_ (f_ E_))) (O_ (f_ (f_ (f_ E_))) (O_ (f_ (f_ (f_ E_))) (f_ (f_ S_))))))))) (fun v _ h => by exact ⟨h.2.2.2.2.2.1, h.2.2.2.2.1, ⟨h.2.2.2.2.2.2.2.1, h.2.2.2.2.2.2.1, h.2.2.2.2.2.1⟩, trivial⟩) rfl fun ⟨Hs3, hS3⟩ => ?_
       refine aj_ kv_ (e_ (b_ rfl (aj_ (bu_ (s_ (s_ (s_ (s_ (s_ (s_ (s_ i_))))))) (bu_ (s_ (s_ (s_ (s_ (s_ (s_ (s_ i_))))))) (df_ (s_ (s_ (s_ (s_ (s_ (s_ bj_))))))))) (h_ ?_))))
       refine aS_ (by kernel_rfl) ?_
       refine ah_ 0 [0, 1, 2, 3, 4, 5, 6] (by kernel_rfl) (fun _ a b => ⟨a, b⟩) (n_ rfl (al_ cA_ rfl (fun v _ h => by exact h.2.2.2.2.2.2.2.1) rfl) rfl (n_ rfl (ar_ rfl) rfl (n_ rfl (l_ J_ rfl rfl rfl bW_) rfl (n_ rfl (al_ cz_ rfl (fun v _ h => by exact h.2.2.2.2.2.1) rfl) rfl (n_ rfl (bC_ (fc_ (E := (EA m hm (EngB.mk g pb ab ub ob ib rb sb lad lcap (aH_ (uniq [] p))) b2 b3 b4 kb fb)) (nw := (rls (bH_ m) idk (bg_ (uniq [] p)) (Ix.add x (decide (f ∈ fm)) f) f (j + 1) (q, fm)).1) (Hs := Hs3) hS3 bq_ rfl (f_ (f_ (f_ (s_ (s_ (s_ (s_ (s_ bj_))))))))) (show _ = Value.int .i64 (List.length (rls (bH_ m) idk (bg_ (uniq [] p)) (Ix.add x (decide (f ∈ fm)) f) f (j + 1) (q, fm)).1 : Int) from rfl)) rfl (n_ rfl (al_ P_ rfl (fun v _ h => by exact h.2.2.2.2.2.2.1) rfl) rfl ?_))))))
       refine cl_ rfl (bR_ rfl rfl) rfl fun r16 hr16 => ?_
       refine ag_ (ac_ (by kernel_rfl) (b_ rfl ?_))
       cases r16
       ·
        replace hr16 := of_decide_eq_false hr16
        refine v_ rfl (z_ (b_ rfl (c_ (a_ (M_ rfl rfl rfl (af_ (by omega) (by omega))) rfl (a_ (d_ rfl) rfl (e_ (w_ rfl ?_)))))))
        exact Z_ ⟨(j + 1, Hs3), hlfv, by exact hS3, .inr (by dsimp only; omega)⟩ (by dsimp only; omega) ⟨rfl, rfl, rfl, rfl, rfl, rfl, rfl, rfl, rfl, rfl, rfl, rfl, rfl, trivial⟩ (m_ i_ (m_ i_ (m_ i_ (O_ E_ (O_ E_ (O_ E_ (O_ E_ (O_ E_ (O_ E_ aD_))))))))) (fun _ _ h => h)
       ·
        replace hr16 := of_decide_eq_true hr16
        refine t_ rfl (au_ rfl (b_ rfl (h_ (h_ ?_))))
        refine aS_ (by kernel_rfl) ?_
        refine ah_ 0 [0, 1, 2, 3, 4, 5, 6] (by kernel_rfl) (fun _ a b => ⟨a, b⟩) (n_ rfl (al_ cA_ rfl (fun v _ h => by exact h.2.2.2.2.2.2.2.1) rfl) rfl (n_ rfl (ar_ rfl) rfl (n_ rfl (l_ J_ rfl rfl rfl bW_) rfl (n_ rfl (al_ cz_ rfl (fun v _ h => by exact h.2.2.2.2.2.1) rfl) rfl (n_ rfl (bC_ (fc_ (E := (EA m hm (EngB.mk g pb ab ub ob ib rb sb lad lcap (aH_ (uniq [] p))) b2 b3 b4 kb fb)) (nw := (rls (bH_ m) idk (bg_ (uniq [] p)) (Ix.add x (decide (f ∈ fm)) f) f (j + 1) (q, fm)).1) (Hs := Hs3) hS3 bq_ rfl (f_ (f_ (f_ (s_ (s_ (s_ (s_ (s_ bj_))))))))) (show _ = Value.int .i64 (List.length (rls (bH_ m) idk (bg_ (uniq [] p)) (Ix.add x (decide (f ∈ fm)) f) f (j + 1) (q, fm)).1 : Int) from rfl)) rfl (n_ rfl (al_ P_ rfl (fun v _ h => by exact h.2.2.2.2.2.2.1) rfl) rfl ?_))))))
        refine cl_ rfl (bR_ rfl rfl) rfl fun r17 hr17 => ?_
        refine ag_ (ac_ (by kernel_rfl) (b_ rfl ?_))
        cases r17
        ·
         replace hr17 := of_decide_eq_false hr17
         omega
        ·
         replace hr17 := of_decide_eq_true hr17
         refine t_ rfl (h_ (h_ (c_ (a_ (d_ rfl) rfl (x_ (av_ rfl rfl) rfl fun r18 hr18 => ?_)))))
         refine e_ (b_ rfl ?_)
         cases r18
         ·
          replace hr18 := of_decide_eq_false hr18
          refine v_ rfl (z_ (b_ rfl (h_ (c_ (a_ (ap_ ep_ rfl rfl) rfl (Q_ 0 ab_ rfl rfl rfl rfl rfl rfl (a_ (g_ rfl) rfl (e_ (b_ rfl ?_)))))))))
          refine F_ ?_
          exact cH_ ⟨((Cl.mk [] none 0 [] none 0), 2), en_ hchk hb0 hb1 hm0' (by rw [if_neg (by assumption)]) (cJ_ hvk hL hf (j + 1) rfl).1 (cJ_ hvk hL hf (j + 1) rfl).2.2.1 (by omega)⟩ (fun aa v h1 h2 => de_ (us := Cl.cells (Cl.mk [] none 0 [] none 0)) 0 dd_ aZ_ ab_ rfl rfl rfl rfl aa v h1 h2) I_ (fun v _ h => by exact ⟨.inl rfl, .inl rfl, trivial⟩)
         ·
          replace hr18 := of_decide_eq_true hr18
          refine t_ rfl (h_ (c_ (a_ (ap_ ep_ rfl rfl) rfl (Q_ 0 ab_ rfl rfl rfl rfl rfl rfl (a_ (g_ rfl) rfl (e_ (b_ rfl (F_ ?_))))))))
          exact cH_ ⟨((Cl.mk [] none 0 [] none 0), 3), en_ hchk hb0 hb1 hm0' (by rw [if_pos (by assumption)]) (cJ_ hvk hL hf (j + 1) rfl).1 (cJ_ hvk hL hf (j + 1) rfl).2.2.1 (by omega)⟩ (fun aa v h1 h2 => de_ (us := Cl.cells (Cl.mk [] none 0 [] none 0)) 0 dd_ aZ_ ab_ rfl rfl rfl rfl aa v h1 h2) I_ (fun v _ h => by exact ⟨.inl rfl, .inl rfl, trivial⟩)
   ·
    replace hr3 := of_decide_eq_true hr3
    refine t_ rfl (h_ (c_ (a_ (ap_ ep_ rfl rfl) rfl (Q_ 0 ab_ rfl rfl rfl rfl rfl rfl (a_ (g_ rfl) rfl (e_ (b_ rfl (F_ ?_))))))))
    exact cH_ ⟨((Cl.mk [] none 0 [] none 0), 1), hI_ (by assumption) (by omega)⟩ (fun aa v h1 h2 => de_ (us := Cl.cells (Cl.mk [] none 0 [] none 0)) 0 dd_ aZ_ ab_ rfl rfl rfl rfl aa v h1 h2) I_ (fun v _ h => by exact ⟨.inl rfl, .inl rfl, trivial⟩)
  ·
   replace hr2 := of_decide_eq_true hr2
   refine r_ rfl rfl rfl rfl (r_ rfl rfl rfl rfl (a_ (H_ rfl rfl) rfl (e_ (b_ rfl (t_ rfl (h_ (c_ (a_ (ap_ ep_ rfl rfl) rfl (Q_ 0 ab_ rfl rfl rfl rfl rfl rfl ?_)))))))))
   refine a_ (g_ rfl) rfl (e_ (b_ rfl (F_ ?_)))
   exact cH_ ⟨((Cl.mk [] none 0 [] none 0), 1), hI_ (by assumption) (by omega)⟩ (fun aa v h1 h2 => de_ (us := Cl.cells (Cl.mk [] none 0 [] none 0)) 0 dd_ aZ_ ab_ rfl rfl rfl rfl aa v h1 h2) I_ (fun v _ h => by exact ⟨.inl rfl, .inl rfl, trivial⟩)
 ·
  replace hr1 := ba_ hr1
  refine t_ rfl (h_ (c_ (a_ (ap_ ep_ rfl rfl) rfl (a_ (d_ rfl) rfl (Q_ 0 ab_ rfl rfl rfl rfl rfl rfl (a_ (g_ rfl) rfl (e_ (b_ rfl (F_ ?_)))))))))
  exact cH_ ⟨((Cl.mk [] none 0 [] none 0), (bM_ p)), mb_ (by assumption)⟩ (fun aa v h1 h2 => de_ (us := Cl.cells (Cl.mk [] none 0 [] none 0)) 0 dd_ aZ_ ab_ rfl rfl rfl rfl aa v h1 h2) I_ (fun v _ h => by exact ⟨.inl rfl, .inl rfl, trivial⟩)
end Go.Proofs.YtpdbbglpbngeiaaGreatDoor
namespace Go.Proofs.YtpdbbglpbngeiaaGreatDoor
open Go Go.Sx Go.Proofs
attribute [local irreducible] Code.wp wpList wpAnyH
open Go.Vs
def isSubB (f : Fc) : Bool := decide (f = an_ f.a f.b)
def factOk (A : List Str) (f : Fc) : Bool :=
  decide (f.a ∈ A) && (if f.kind = 1 then decide (f.b ∈ A) && isSubB f
    else if f.kind = 2 then decide (f.b ∈ A) && (decide (f.r ≠ []) && decide (f = ax_ f.a f.r f.b))
    else if f.kind = 3 then decide (f.r ≠ []) && (decide (f = aP_ f.a f.r f.lo f.hi) && (decide (-1099511627776 ≤ f.lo) && (decide (f.lo ≤ f.hi) && decide (f.hi ≤ 1099511627776))))
    else false)
abbrev mF_ (l : List Str) : Prop := l.Pairwise fun x y => x < y
def ChkB (at' : List Str) (fs : List Fc) : Prop := mF_ at' ∧ Srt fs ∧ [42] ∈ at' ∧ [33] ∈ at' ∧ ∀ f ∈ fs, factOk at' f = true
instance (at' : List Str) (fs : List Fc) : Decidable (ChkB at' fs) := by unfold ChkB; exact inferInstance
def mB_ (at' : List Str) (fs : List Fc) : Int := if ChkB at' fs then if 65536 < fs.length then 2 else 0 else 1
theorem qa_ {α : Type} {lt : α → α → Prop} (ht : ∀ {x y z}, lt x y → lt y z → lt x z) {l : List α} {k : Nat} {a b : α} (h : (l.take (k + 1)).Pairwise lt) (ha : l[k]? = some a) (hb : l[k + 1]? = some b) (hab : lt a b) : (l.take (k + 2)).Pairwise lt := by
  rw [List.take_add_one, hb, Option.toList_some, List.pairwise_append]
  refine ⟨h, by simp, fun x hx y hy => ?_⟩
  rw [List.mem_singleton] at hy
  subst hy
  rw [List.take_add_one, ha, Option.toList_some] at h hx
  rcases List.mem_append.1 hx with hx | hx
  · exact ht ((List.pairwise_append.1 h).2.2 x hx a (by simp)) hab
  · rw [List.mem_singleton] at hx; subst hx; exact hab
theorem pw_not {α : Type} {lt : α → α → Prop} {l : List α} {k : Nat} {a b : α} (ha : l[k]? = some a) (hb : l[k + 1]? = some b) (hab : ¬ lt a b) : ¬ l.Pairwise lt := fun h => by
  obtain ⟨h1, h2⟩ := List.getElem?_eq_some_iff.1 ha
  obtain ⟨h3, h4⟩ := List.getElem?_eq_some_iff.1 hb
  have := List.pairwise_iff_getElem.1 h k (k + 1) h1 h3 (by omega)
  rw [h2, h4] at this
  exact hab this
theorem pw_one {α : Type} {lt : α → α → Prop} (l : List α) : (l.take 1).Pairwise lt := by
  cases l <;> simp
end Go.Proofs.YtpdbbglpbngeiaaGreatDoor
namespace Go.Proofs.YtpdbbglpbngeiaaGreatDoor
open Go Go.Sx Go.Proofs
attribute [local irreducible] Code.wp wpList wpAnyH
open Go.Vs
theorem mF_.nodup {l : List Str} (h : mF_ l) : l.Nodup := by
  unfold List.Nodup
  refine List.Pairwise.imp ?_ h
  intro a b hab e
  exact eh_ b (e ▸ hab)
theorem any_no {α : Type} {p : α → Bool} {l : List α} {j : Nat} {x : α} (h : ∀ y ∈ l.take j, p y = false) (hx : l[j]? = some x) (hp : p x = false) : ∀ y ∈ l.take (j + 1), p y = false := fun y hy => by
  rw [List.take_add_one, hx] at hy
  simp only [Option.toList_some, List.mem_append, List.mem_singleton] at hy
  rcases hy with hy | rfl
  · exact h y hy
  · exact hp
end Go.Proofs.YtpdbbglpbngeiaaGreatDoor
namespace Go.Proofs.YtpdbbglpbngeiaaGreatDoor
open Go Go.Sx Go.Proofs
attribute [local irreducible] Code.wp wpList wpAnyH
open Go.Vs
theorem iM_ : ∀ {l : List Fc} {f : Fc} {m : Nat} {x : Fc}, Srt l → l[m]? = some x → (x.lt f ↔ m < aY_ l f)
  | [], _, _, _, _, h => by simp at h
  | y :: l, f, 0, x, hs, h => by
    simp only [List.getElem?_cons_zero, Option.some.injEq] at h
    subst h
    unfold aY_
    rw [List.countP_cons]
    constructor
    · intro q; rw [if_pos (decide_eq_true q)]; omega
    · intro q
      apply Decidable.byContradiction
      intro hn
      rw [if_neg (by simpa using hn)] at q
      obtain ⟨z, hz, hz2⟩ := List.countP_pos_iff.1 (Nat.lt_of_lt_of_eq q (Nat.add_zero _))
      exact hn (Fc.lt_trans ((List.pairwise_cons.1 hs).1 z hz) (of_decide_eq_true hz2))
  | y :: l, f, m + 1, x, hs, h => by
    simp only [List.getElem?_cons_succ] at h
    have hs' := List.pairwise_cons.1 hs
    have ih := iM_ hs'.2 h (f := f)
    unfold aY_ at *
    rw [List.countP_cons, ih]
    constructor
    · intro q
      have hx : x.lt f := ih.2 q
      rw [if_pos (decide_eq_true (Fc.lt_trans (hs'.1 x (List.mem_of_getElem? h)) hx))]; omega
    · intro q
      split at q <;> omega
theorem mid2 (lo hi : Nat) : Int.tdiv ((lo : Int) + (hi : Int)) 2 = (((lo + hi) / 2 : Nat) : Int) := by
  rw [Int.tdiv_eq_ediv_of_nonneg (by omega)]; omega
theorem less_c (x y : Fc) : Fn0 Tryz.prog 75 #[Fc.val x, Fc.val y] (.bool (decide (x.lt y))) := by
 refine T_ Tryz.func75 rfl rfl Tryz.ntmps75 rfl fun v0 => ?_
 refine h_ (c_ (bs_ rfl rfl fun b1 => ?_))
 refine bs_ rfl rfl fun b2 => ?_
 refine a_ (g_ rfl) rfl (e_ (b_ rfl (h_ (R_ (h_ (c_ (a_ (l_ o_ rfl rfl rfl L_) rfl (a_ (u_ 1 P_ rfl rfl rfl) rfl (a_ (l_ o_ rfl rfl rfl L_) rfl ?_)))))))))
 refine a_ (u_ 0 P_ rfl rfl rfl) rfl (x_ (bN_ rfl rfl) rfl fun r1 hr1 => ?_)
 refine a_ (g_ rfl) rfl (e_ (b_ rfl ?_))
 cases r1
 ·
  replace hr1 := bb_ hr1
  refine v_ rfl (h_ (c_ (a_ (l_ o_ rfl rfl rfl j_) rfl (a_ (u_ 1 q_ rfl rfl rfl) rfl (a_ (l_ o_ rfl rfl rfl j_) rfl (a_ (u_ 0 q_ rfl rfl rfl) rfl (x_ (dL_ rfl rfl) rfl fun r2 hr2 => ?_)))))))
  refine a_ (g_ rfl) rfl (e_ (b_ rfl ?_))
  cases r2
  ·
   replace hr2 := bb_ hr2
   refine v_ rfl (h_ (c_ (a_ (l_ o_ rfl rfl rfl j_) rfl (a_ (u_ 1 q_ rfl rfl rfl) rfl (a_ (l_ o_ rfl rfl rfl j_) rfl (a_ (u_ 0 q_ rfl rfl rfl) rfl (x_ (dL_ rfl rfl) rfl fun r3 hr3 => ?_)))))))
   refine a_ (g_ rfl) rfl (e_ (b_ rfl ?_))
   cases r3
   ·
    replace hr3 := bb_ hr3
    refine v_ rfl (h_ (c_ (a_ (l_ o_ rfl rfl rfl j_) rfl (a_ (u_ 1 q_ rfl rfl rfl) rfl (a_ (l_ o_ rfl rfl rfl j_) rfl (a_ (u_ 0 q_ rfl rfl rfl) rfl (x_ (dL_ rfl rfl) rfl fun r4 hr4 => ?_)))))))
    refine a_ (g_ rfl) rfl (e_ (b_ rfl ?_))
    cases r4
    ·
     replace hr4 := bb_ hr4
     refine v_ rfl (h_ (c_ (a_ (l_ o_ rfl rfl rfl L_) rfl (a_ (u_ 1 P_ rfl rfl rfl) rfl (a_ (l_ o_ rfl rfl rfl L_) rfl (a_ (u_ 0 P_ rfl rfl rfl) rfl (x_ (bN_ rfl rfl) rfl fun r5 hr5 => ?_)))))))
     refine a_ (g_ rfl) rfl (e_ (b_ rfl ?_))
     cases r5
     ·
      replace hr5 := bb_ hr5
      refine v_ rfl (z_ (b_ rfl (h_ (c_ (a_ (l_ o_ rfl rfl rfl L_) rfl (a_ (u_ 1 P_ rfl rfl rfl) rfl (a_ (l_ o_ rfl rfl rfl L_) rfl (a_ (u_ 0 P_ rfl rfl rfl) rfl (x_ (av_ rfl rfl) rfl fun r6 hr6 => ?_)))))))))
      refine a_ (g_ rfl) rfl (e_ (b_ rfl (F_ ?_)))
      exact aw_ iG_ () (y_ rfl (by rw [← hr6, decide_eq_decide]; unfold Fc.lt; simp_all [eh_])) I_ (fun _ _ _ => trivial)
     ·
      replace hr5 := ba_ hr5
      refine t_ rfl (h_ (c_ (a_ (l_ o_ rfl rfl rfl L_) rfl (a_ (u_ 1 P_ rfl rfl rfl) rfl (a_ (l_ o_ rfl rfl rfl L_) rfl (a_ (u_ 0 P_ rfl rfl rfl) rfl (x_ (av_ rfl rfl) rfl fun r7 hr7 => ?_)))))))
      refine a_ (g_ rfl) rfl (e_ (b_ rfl (F_ ?_)))
      exact aw_ iG_ () (y_ rfl (by rw [← hr7, decide_eq_decide]; unfold Fc.lt; simp_all [eh_])) I_ (fun _ _ _ => trivial)
    ·
     replace hr4 := ba_ hr4
     refine t_ rfl (h_ (c_ (a_ (l_ o_ rfl rfl rfl j_) rfl (a_ (u_ 1 q_ rfl rfl rfl) rfl (a_ (l_ o_ rfl rfl rfl j_) rfl (a_ (u_ 0 q_ rfl rfl rfl) rfl (x_ (gi_ rfl rfl) rfl fun r8 hr8 => ?_)))))))
     refine a_ (g_ rfl) rfl (e_ (b_ rfl (F_ ?_)))
     exact aw_ iG_ () (y_ rfl (by rw [← hr8, decide_eq_decide]; unfold Fc.lt; simp_all [eh_])) I_ (fun _ _ _ => trivial)
   ·
    replace hr3 := ba_ hr3
    refine t_ rfl (h_ (c_ (a_ (l_ o_ rfl rfl rfl j_) rfl (a_ (u_ 1 q_ rfl rfl rfl) rfl (a_ (l_ o_ rfl rfl rfl j_) rfl (a_ (u_ 0 q_ rfl rfl rfl) rfl (x_ (gi_ rfl rfl) rfl fun r9 hr9 => ?_)))))))
    refine a_ (g_ rfl) rfl (e_ (b_ rfl (F_ ?_)))
    exact aw_ iG_ () (y_ rfl (by rw [← hr9, decide_eq_decide]; unfold Fc.lt; simp_all [eh_])) I_ (fun _ _ _ => trivial)
  ·
   replace hr2 := ba_ hr2
   refine t_ rfl (h_ (c_ (a_ (l_ o_ rfl rfl rfl j_) rfl (a_ (u_ 1 q_ rfl rfl rfl) rfl (a_ (l_ o_ rfl rfl rfl j_) rfl (a_ (u_ 0 q_ rfl rfl rfl) rfl (x_ (gi_ rfl rfl) rfl fun r10 hr10 => ?_)))))))
   refine a_ (g_ rfl) rfl (e_ (b_ rfl (F_ ?_)))
   exact aw_ iG_ () (y_ rfl (by rw [← hr10, decide_eq_decide]; unfold Fc.lt; simp_all [eh_])) I_ (fun _ _ _ => trivial)
 ·
  replace hr1 := ba_ hr1
  refine t_ rfl (h_ (c_ (a_ (l_ o_ rfl rfl rfl L_) rfl (a_ (u_ 1 P_ rfl rfl rfl) rfl (a_ (l_ o_ rfl rfl rfl L_) rfl (a_ (u_ 0 P_ rfl rfl rfl) rfl (x_ (av_ rfl rfl) rfl fun r11 hr11 => ?_)))))))
  refine a_ (g_ rfl) rfl (e_ (b_ rfl (F_ ?_)))
  exact aw_ iG_ () (y_ rfl (by rw [← hr11, decide_eq_decide]; unfold Fc.lt; simp_all [eh_])) I_ (fun _ _ _ => trivial)
theorem mW_ (l : List Fc) (ad : Option Addr) (cap : Nat) (f : Fc) (hl : l.length ≤ 1000000000000) (hs : Srt l) : Tri Tryz.prog 76 #[.slice ad (List.length l) cap, Fc.val f] [] [az_ ad (List.flatMap Fc.cells l)] (fun _ : Unit => .int .i64 (aY_ l f : Int)) (fun _ => []) (fun _ => []) := by
  refine T_ Tryz.func76 rfl rfl Tryz.ntmps76 rfl fun v0 => ?_
  refine h_ (c_ (bs_ rfl rfl fun b1 => ?_))
  refine a_ (g_ rfl) rfl (e_ (b_ rfl (h_ (c_ (a_ (g_ rfl) rfl (e_ (b_ rfl (h_ (c_ ?_)))))))))
  refine a_ (d_ rfl) rfl (a_ (am_ G_ rfl) rfl (a_ (g_ rfl) rfl (e_ (b_ rfl (h_ (R_ ?_))))))
  refine aL_ (ι := {y : Nat × Nat // y.1 ≤ y.2 ∧ y.1 ≤ aY_ l f ∧ aY_ l f ≤ y.2 ∧ y.2 ≤ List.length l}) (fun y => [(0, .slice ad (List.length l) cap), (3, zp_ b1 0), (5, .int .i64 (y.1.1 : Int)), (6, .int .i64 (y.1.2 : Int))]) (fun y => ((b1, .cells (Fc.cells f).toArray 41 (0, 0)) :: [])) (fun y => [az_ ad (List.flatMap Fc.cells l)]) (fun y => y.1.2 - y.1.1) ⟨((0 : Nat), (List.length l)), Nat.zero_le _, Nat.zero_le _, cI_ l f, Nat.le_refl _⟩ ⟨rfl, rfl, rfl, rfl, trivial⟩ i_ (fun _ _ h => h) ?_
  rintro ⟨⟨lo, hi⟩, hlh, hp1, hp2, hp3⟩
  dsimp only at hlh hp1 hp2 hp3 ⊢
  refine h_ (h_ (c_ (a_ (d_ rfl) rfl (a_ (d_ rfl) rfl (x_ (av_ rfl rfl) rfl fun r1 hr1 => ?_)))))
  refine e_ (b_ rfl ?_)
  cases r1
  · skip
    replace hr1 := of_decide_eq_false hr1
    refine v_ rfl (au_ rfl (b_ rfl (h_ (c_ (a_ (d_ rfl) rfl (a_ (g_ rfl) rfl (e_ (b_ rfl (F_ ?_)))))))))
    exact aw_ Tryz.results76 () (cm_ rfl (by omega)) I_ (fun _ _ _ => trivial)
  · skip
    replace hr1 := of_decide_eq_true hr1
    have hlx1 : ((lo + hi) / 2 : Nat) < List.length l := by omega
    obtain ⟨x1, hx1⟩ : ∃ e0, l[((lo + hi) / 2 : Nat)]? = some e0 := ⟨_, List.getElem?_eq_getElem hlx1⟩
    have hmx1 : x1 ∈ l := List.mem_of_getElem? hx1
    refine t_ rfl (z_ (b_ rfl (R_ (h_ (c_ (a_ (d_ rfl) rfl (a_ (d_ rfl) rfl (a_ (M_ rfl rfl rfl (af_ (by omega) (by omega))) rfl (a_ (bC_ (pF_ rfl rfl (by decide) (by rw [mid2]; exact af_ (by omega) (by omega))) (show Value.int .i64 (Int.tdiv ((lo : Int) + (hi : Int)) 2) = Value.int .i64 (((lo + hi) / 2 : Nat) : Int) from congrArg _ (mid2 lo hi))) rfl ?_)))))))))
    refine a_ (g_ rfl) rfl (e_ (b_ rfl (h_ ?_)))
    refine aS_ (by kernel_rfl) ?_
    refine ah_ 1 [0, 1, 2, 3, 4] (by kernel_rfl) (fun _ a b => ⟨a, b⟩) (n_ rfl (d_ rfl) rfl (n_ rfl (d_ rfl) rfl (n_ rfl (aa_ G_ B_ rfl rfl (fun v _ h => ay_ (n := 6) Fc.cells_len (by decide) (by exact h.1) hx1) (by omega) (by first | omega | (simp; done))) rfl (n_ rfl (aU_ (ad := ad) (us := Fc.cells x1) ai_ B_ rfl (fun v _ h => by exact h.1) (Fc.cells_len _) (ad_ Fc.cells_len hx1)) rfl (n_ rfl (Y_ 0 ai_ B_ rfl rfl rfl) rfl (ag_ (X_ 5 rfl (by kernel_rfl) (as_ (less_c x1 f) rfl I_ (fun _ _ _ => by exact trivial) rfl fun r2 hr2 => ?_))))))))
    refine e_ (w_ rfl (N_ (fun _ a b => ⟨a, b⟩) (ac_ (by kernel_rfl) (b_ rfl ?_))))
    cases r2
    · skip
      replace hr2 := of_decide_eq_false hr2
      refine v_ rfl (c_ (a_ (d_ rfl) rfl (a_ (g_ rfl) rfl (e_ (w_ rfl ?_)))))
      exact Z_ ⟨(lo, ((lo + hi) / 2 : Nat)), by omega, hp1, by have := (not_congr (iM_ hs hx1 (f := f))).1 hr2; omega, by omega⟩ (by dsimp only; omega) ⟨rfl, rfl, rfl, rfl, trivial⟩ i_ (fun _ _ h => h)
    · skip
      replace hr2 := of_decide_eq_true hr2
      refine t_ rfl (c_ (a_ (d_ rfl) rfl (a_ (M_ rfl rfl rfl (af_ (by omega) (by omega))) rfl (a_ (g_ rfl) rfl (e_ (w_ rfl ?_))))))
      exact Z_ ⟨(((lo + hi) / 2 : Nat) + 1, hi), by omega, by have := (iM_ hs hx1 (f := f)).1 hr2; omega, hp2, hp3⟩ (by dsimp only; omega) ⟨rfl, rfl, rfl, rfl, trivial⟩ i_ (fun _ _ h => h)
theorem jj_ (l : List Fc) (ad : Option Addr) (cap : Nat) (f : Fc) (hl : l.length ≤ 1000000000000) (hs : Srt l) : Tri Tryz.prog 28 #[.slice ad (List.length l) cap, Fc.val f] [] [az_ ad (List.flatMap Fc.cells l)] (fun _ : Unit => .bool (decide (f ∈ l))) (fun _ => []) (fun _ => []) := by
  refine T_ Tryz.func28 rfl rfl Tryz.ntmps28 rfl fun v0 => ?_
  refine h_ (c_ (bs_ rfl rfl fun b1 => ?_))
  refine a_ (g_ rfl) rfl (e_ (b_ rfl (h_ (c_ (a_ (d_ rfl) rfl (a_ (Y_ 0 ai_ B_ rfl rfl rfl) rfl (W_ (mW_ l ad cap f (by omega) hs) rfl I_ (fun v _ h => by exact ⟨h.1, trivial⟩) rfl fun _ => ?_)))))))
  refine a_ (g_ rfl) rfl (e_ (b_ rfl (h_ ?_)))
  refine aS_ (by kernel_rfl) ?_
  refine ah_ 8 [0, 1, 2, 3, 4] (by kernel_rfl) (fun _ a b => ⟨a, b⟩) (n_ rfl (d_ rfl) rfl (n_ rfl (d_ rfl) rfl (n_ rfl (am_ G_ rfl) rfl ?_)))
  refine cl_ rfl (av_ rfl rfl) rfl fun r1 hr1 => ?_
  refine n_ rfl (d_ rfl) rfl (ag_ ?_)
  cases r1
  · skip
    replace hr1 := of_decide_eq_false hr1
    refine ah_ 0 [5, 6, 7, 8, 9, 10, 11, 12] (by kernel_rfl) (fun _ a b => ⟨a, b⟩) (aE_ rfl rfl rfl rfl rfl (aE_ rfl rfl rfl rfl rfl (aE_ rfl rfl rfl rfl rfl (aE_ rfl rfl rfl rfl rfl (aE_ rfl rfl rfl rfl rfl (aE_ rfl rfl rfl rfl rfl (n_ rfl (C_ rfl rfl) rfl (n_ rfl (g_ rfl) rfl (ag_ ?_)))))))))
    refine ac_ (by kernel_rfl) (b_ rfl (F_ ?_))
    exact aw_ Tryz.results28 () (y_ rfl (by symm; apply decide_eq_false; intro q; have := (List.getElem?_eq_some_iff.1 ((fF_ hs f).1 q)).1; omega)) I_ (fun _ _ _ => trivial)
  · skip
    replace hr1 := of_decide_eq_true hr1
    have hlx1 : aY_ l f < List.length l := by omega
    obtain ⟨x1, hx1⟩ : ∃ e0, l[aY_ l f]? = some e0 := ⟨_, List.getElem?_eq_getElem hlx1⟩
    have hmx1 : x1 ∈ l := List.mem_of_getElem? hx1
    refine ah_ 0 [5, 6, 7, 8, 9, 10, 11, 12] (by kernel_rfl) (fun _ a b => ⟨a, b⟩) (aC_ rfl rfl rfl (d_ rfl) rfl (aC_ rfl rfl rfl (d_ rfl) rfl (aC_ rfl rfl rfl (aa_ G_ B_ rfl rfl (fun v _ h => ay_ (n := 6) Fc.cells_len (by decide) (by exact h.1) hx1) (by omega) (by first | omega | (simp; done))) rfl (aC_ rfl rfl rfl (aU_ (ad := ad) (us := Fc.cells x1) ai_ B_ rfl (fun v _ h => by exact h.1) (Fc.cells_len _) (ad_ Fc.cells_len hx1)) rfl (aC_ rfl rfl rfl (Y_ 0 ai_ B_ rfl rfl rfl) rfl ?_)))))
    refine dB_ rfl rfl rfl (jJ_ (p := x1) (q := f) rfl rfl) rfl fun r2 hr2 => ?_
    refine n_ rfl (H_ rfl rfl) rfl (n_ rfl (g_ rfl) rfl (ag_ (ac_ (by kernel_rfl) (b_ rfl (F_ ?_)))))
    exact aw_ Tryz.results28 () (y_ rfl (by rw [← hr2, decide_eq_decide, fF_ hs f, hx1, Option.some.injEq])) I_ (fun _ _ _ => trivial)
theorem qH_ (l : List Fc) (ad : Option Addr) (cap : Nat) (f : Fc) (hl : l.length ≤ 1000000000000) (hs : Srt l) (hc : (l.length ≤ cap ∧ cap ≤ maxLen ∧ (ad = none → cap = 0))) : Tri Tryz.prog 27 #[.slice ad (List.length l) cap, Fc.val f] [] [az_ ad (List.flatMap Fc.cells l)] (fun y : {y : Option Addr × Nat // (cT_ l f).length ≤ y.2 ∧ y.2 ≤ maxLen ∧ (y.1 = none → y.2 = 0)} => .slice y.1.1 (cT_ l f).length y.1.2) (fun _ => []) (fun y => [az_ y.1.1 ((cT_ l f).flatMap Fc.cells)]) := by
 refine T_ Tryz.func27 rfl rfl Tryz.ntmps27 rfl fun v0 => ?_
 obtain ⟨hc1, hc2, hc3⟩ := hc
 have hc := And.intro hc1 (And.intro hc2 hc3)
 have hpf := cI_ l f
 refine h_ (c_ (bs_ rfl rfl fun b1 => ?_))
 refine a_ (g_ rfl) rfl (e_ (b_ rfl (h_ (c_ (a_ (d_ rfl) rfl (a_ (Y_ 0 ai_ B_ rfl rfl rfl) rfl (W_ (mW_ l ad cap f (by omega) hs) rfl I_ (fun v _ h => by exact ⟨h.1, trivial⟩) rfl fun _ => ?_)))))))
 refine a_ (g_ rfl) rfl (e_ (b_ rfl (h_ (h_ ?_))))
 refine aS_ (by kernel_rfl) ?_
 refine ah_ 7 [0, 1, 2, 3, 4] (by kernel_rfl) (fun _ a b => ⟨a, b⟩) (n_ rfl (d_ rfl) rfl (n_ rfl (d_ rfl) rfl (n_ rfl (am_ G_ rfl) rfl ?_)))
 refine cl_ rfl (av_ rfl rfl) rfl fun r1 hr1 => ?_
 refine n_ rfl (d_ rfl) rfl (ag_ ?_)
 cases r1
 ·
  replace hr1 := of_decide_eq_false hr1
  refine ah_ 0 [5, 6, 7, 8, 9, 10, 11] (by kernel_rfl) (fun _ a b => ⟨a, b⟩) (aE_ rfl rfl rfl rfl rfl (aE_ rfl rfl rfl rfl rfl (aE_ rfl rfl rfl rfl rfl (aE_ rfl rfl rfl rfl rfl (aE_ rfl rfl rfl rfl rfl (aE_ rfl rfl rfl rfl rfl (n_ rfl (C_ rfl rfl) rfl (ag_ (ac_ (by kernel_rfl) ?_)))))))))
  refine b_ rfl (v_ rfl (z_ (b_ rfl (h_ (c_ (cF_ G_ B_ rfl fun b2 => ?_))))))
  refine aj_ i_ (a_ (d_ rfl) rfl (a_ (d_ rfl) rfl (a_ (bC_ (cj_ (i := 0) (j := (aY_ l f)) (kl := .i64) (kh := .i64) G_ B_ rfl rfl rfl (by omega) (by have := hc1; omega)) (show _ = Value.slice (sad ad cap 0 6) (List.length (List.take (aY_ l f) l)) (cap - 0) by rw [List.length_take, Nat.min_eq_left (by omega)]; rfl)) rfl (aI_ (news := List.flatMap Fc.cells (List.take (aY_ l f) l)) ca_ (do_ b2 41 6) rfl rfl (fun q => by have := hc3 (dp_ q); omega) (by rw [List.length_take]; have := hc1; omega) E_ (by rw [bp_ Fc.cells 6 Fc.cells_len]) (fun v _ h => by exact (bv_.slice Fc.cells_len h.1 hc1 0 (aY_ l f))) (fun u hu => aK_ Fc.cells_one hu) (by simp only [maxLen]; (have := cI_ l f; (try simp only [List.length_append, List.length_take, List.length_drop, List.length_cons, List.length_nil]); omega)) (by (have := cI_ l f; (try simp only [List.length_append, List.length_take, List.length_drop, List.length_cons, List.length_nil]); omega)) rfl fun sv1 Hr1 hr1 => ?_))))
  refine aj_ List.perm_append_comm ?_
  have hq1 : aQ_ 41 6 sv1 (List.length (([] : List Fc) ++ (List.take (aY_ l f) l))) (List.flatMap Fc.cells (([] : List Fc) ++ (List.take (aY_ l f) l))) Hr1 := by rw [List.length_append, List.flatMap_append]; exact hr1
  refine a_ (g_ rfl) rfl (e_ (b_ rfl (h_ ?_)))
  refine aR_ ((b1, .cells (Fc.cells f).toArray 41 (0, 0)) :: []) (by kernel_rfl) ?_
  refine ah_ 4 [0, 1, 4, 5, 6] (by kernel_rfl) (fun _ a b => ⟨Vw.sat.sub (a.perm i_), b⟩) (n_ rfl (d_ rfl) rfl (n_ rfl (Y_ 0 ai_ B_ rfl rfl rfl) rfl (n_ rfl (d_ rfl) rfl (n_ rfl (d_ rfl) rfl (n_ rfl (bC_ (cj_ (i := (aY_ l f)) (j := List.length l) (kl := .i64) (kh := .i64) G_ B_ rfl rfl rfl (by omega) (by have := hc1; omega)) (show _ = Value.slice (sad ad cap (aY_ l f) 6) (List.length (List.drop (aY_ l f) l)) (cap - (aY_ l f)) by rw [List.length_drop])) rfl (ag_ (X_ 2 rfl (by kernel_rfl) (aJ_ G_ B_ ak_ rfl rfl rfl rfl rfl rfl fun b3 => ?_))))))))
  refine e_ (w_ rfl (N_ (fun _ a b => ⟨Vw.sat.sub (a.perm (f_ i_)), b⟩) (X_ 3 rfl (by kernel_rfl) (bi_ (news := List.flatMap Fc.cells [f]) ca_ hq1 rfl rfl (f_ S_) rfl (cy_ 0 rfl) (fun u hu => aK_ Fc.cells_one hu) (by simp only [maxLen]; (have := cI_ l f; (try simp only [List.length_append, List.length_take, List.length_drop, List.length_cons, List.length_nil]); omega)) (by (have := cI_ l f; (try simp only [List.length_append, List.length_take, List.length_drop, List.length_cons, List.length_nil]); omega)) rfl fun sv2 Hr2 hr2 => ?_))))
  refine aj_ List.perm_append_comm ?_
  have hq2 : aQ_ 41 6 sv2 (List.length ((([] : List Fc) ++ (List.take (aY_ l f) l)) ++ [f])) (List.flatMap Fc.cells ((([] : List Fc) ++ (List.take (aY_ l f) l)) ++ [f])) Hr2 := by rw [List.length_append, List.flatMap_append]; exact hr2
  refine e_ (w_ rfl (N_ (fun _ a b => ⟨Vw.sat.sub (a.perm (f_ i_)), b⟩) (X_ 7 rfl (by kernel_rfl) (aI_ (news := List.flatMap Fc.cells (List.drop (aY_ l f) l)) ca_ hq2 rfl rfl (fun q => by have := hc3 (dp_ q); omega) (by rw [List.length_drop]; have := hc1; omega) (f_ S_) (by rw [bp_ Fc.cells 6 Fc.cells_len]) (fun v _ h => by exact (bv_.rest Fc.cells_len h.1 hc1 (aY_ l f))) (fun u hu => aK_ Fc.cells_one hu) (by simp only [maxLen]; (have := cI_ l f; (try simp only [List.length_append, List.length_take, List.length_drop, List.length_cons, List.length_nil]); omega)) (by (have := cI_ l f; (try simp only [List.length_append, List.length_take, List.length_drop, List.length_cons, List.length_nil]); omega)) rfl fun sv3 Hr3 hr3 => ?_))))
  refine aj_ List.perm_append_comm ?_
  have hq3 : aQ_ 41 6 sv3 (List.length (((([] : List Fc) ++ (List.take (aY_ l f) l)) ++ [f]) ++ (List.drop (aY_ l f) l))) (List.flatMap Fc.cells (((([] : List Fc) ++ (List.take (aY_ l f) l)) ++ [f]) ++ (List.drop (aY_ l f) l))) Hr3 := by rw [List.length_append, List.flatMap_append]; exact hr3
  refine e_ (w_ rfl (N_ (fun _ a b => ⟨Vw.sat.sub (a.perm (f_ i_)), b⟩) (ah_ 0 [8] (by kernel_rfl) (fun _ a b => ⟨Vw.sat.sub (a.perm (f_ i_)), b⟩) (n_ rfl (g_ rfl) rfl (ag_ (ac_ (by kernel_rfl) (b_ rfl (F_ ?_))))))))
  have ei : cT_ l f = (([] : List Fc) ++ List.take (aY_ l f) l ++ [f]) ++ List.drop (aY_ l f) l := by unfold cT_; rw [if_neg (fun q => by have q2 := (fF_ hs f).1 q; have := (List.getElem?_eq_some_iff.1 q2).1; omega)]; simp
  have h9 := hq3
  rw [show ((((([] : List Fc) ++ (List.take (aY_ l f) l)) ++ [f]) ++ (List.drop (aY_ l f) l)) : List Fc) = cT_ l f from by rw [ei]] at h9
  refine bk_ h9 (f_ S_) fun ad2 cp2 had2 hcad2 hmad2 hzad2 => ?_
  exact aw_ Tryz.results27 ⟨(ad2, cp2), hcad2, hmad2, hzad2⟩ (bU_ rfl had2) I_ (fun v _ h => ⟨h.1, trivial⟩)
 ·
  replace hr1 := of_decide_eq_true hr1
  have hlx1 : aY_ l f < List.length l := by omega
  obtain ⟨x1, hx1⟩ : ∃ e0, l[aY_ l f]? = some e0 := ⟨_, List.getElem?_eq_getElem hlx1⟩
  have hmx1 : x1 ∈ l := List.mem_of_getElem? hx1
  refine ah_ 0 [5, 6, 7, 8, 9, 10, 11] (by kernel_rfl) (fun _ a b => ⟨a, b⟩) (aC_ rfl rfl rfl (d_ rfl) rfl (aC_ rfl rfl rfl (d_ rfl) rfl (aC_ rfl rfl rfl (aa_ G_ B_ rfl rfl (fun v _ h => ay_ (n := 6) Fc.cells_len (by decide) (by exact h.1) hx1) (by omega) (by first | omega | (simp; done))) rfl (aC_ rfl rfl rfl (aU_ (ad := ad) (us := Fc.cells x1) ai_ B_ rfl (fun v _ h => by exact h.1) (Fc.cells_len _) (ad_ Fc.cells_len hx1)) rfl (aC_ rfl rfl rfl (Y_ 0 ai_ B_ rfl rfl rfl) rfl ?_)))))
  refine dB_ rfl rfl rfl (jJ_ (p := x1) (q := f) rfl rfl) rfl fun r2 hr2 => ?_
  refine n_ rfl (H_ rfl rfl) rfl (ag_ (ac_ (by kernel_rfl) (b_ rfl ?_)))
  cases r2
  ·
   replace hr2 := of_decide_eq_false hr2
   refine v_ rfl (z_ (b_ rfl (h_ (c_ (cF_ G_ B_ rfl fun b4 => ?_)))))
   refine aj_ i_ (a_ (d_ rfl) rfl (a_ (d_ rfl) rfl (a_ (bC_ (cj_ (i := 0) (j := (aY_ l f)) (kl := .i64) (kh := .i64) G_ B_ rfl rfl rfl (by omega) (by have := hc1; omega)) (show _ = Value.slice (sad ad cap 0 6) (List.length (List.take (aY_ l f) l)) (cap - 0) by rw [List.length_take, Nat.min_eq_left (by omega)]; rfl)) rfl (aI_ (news := List.flatMap Fc.cells (List.take (aY_ l f) l)) ca_ (do_ b4 41 6) rfl rfl (fun q => by have := hc3 (dp_ q); omega) (by rw [List.length_take]; have := hc1; omega) E_ (by rw [bp_ Fc.cells 6 Fc.cells_len]) (fun v _ h => by exact (bv_.slice Fc.cells_len h.1 hc1 0 (aY_ l f))) (fun u hu => aK_ Fc.cells_one hu) (by simp only [maxLen]; (have := cI_ l f; (try simp only [List.length_append, List.length_take, List.length_drop, List.length_cons, List.length_nil]); omega)) (by (have := cI_ l f; (try simp only [List.length_append, List.length_take, List.length_drop, List.length_cons, List.length_nil]); omega)) rfl fun sv4 Hr4 hr4 => ?_))))
   refine aj_ List.perm_append_comm ?_
   have hq4 : aQ_ 41 6 sv4 (List.length (([] : List Fc) ++ (List.take (aY_ l f) l))) (List.flatMap Fc.cells (([] : List Fc) ++ (List.take (aY_ l f) l))) Hr4 := by rw [List.length_append, List.flatMap_append]; exact hr4
   refine a_ (g_ rfl) rfl (e_ (b_ rfl (h_ ?_)))
   refine aR_ ((b1, .cells (Fc.cells f).toArray 41 (0, 0)) :: []) (by kernel_rfl) ?_
   refine ah_ 4 [0, 1, 4, 5, 6] (by kernel_rfl) (fun _ a b => ⟨Vw.sat.sub (a.perm i_), b⟩) (n_ rfl (d_ rfl) rfl (n_ rfl (Y_ 0 ai_ B_ rfl rfl rfl) rfl (n_ rfl (d_ rfl) rfl (n_ rfl (d_ rfl) rfl (n_ rfl (bC_ (cj_ (i := (aY_ l f)) (j := List.length l) (kl := .i64) (kh := .i64) G_ B_ rfl rfl rfl (by omega) (by have := hc1; omega)) (show _ = Value.slice (sad ad cap (aY_ l f) 6) (List.length (List.drop (aY_ l f) l)) (cap - (aY_ l f)) by rw [List.length_drop])) rfl (ag_ (X_ 2 rfl (by kernel_rfl) (aJ_ G_ B_ ak_ rfl rfl rfl rfl rfl rfl fun b5 => ?_))))))))
   refine e_ (w_ rfl (N_ (fun _ a b => ⟨Vw.sat.sub (a.perm (f_ i_)), b⟩) (X_ 3 rfl (by kernel_rfl) (bi_ (news := List.flatMap Fc.cells [f]) ca_ hq4 rfl rfl (f_ S_) rfl (cy_ 0 rfl) (fun u hu => aK_ Fc.cells_one hu) (by simp only [maxLen]; (have := cI_ l f; (try simp only [List.length_append, List.length_take, List.length_drop, List.length_cons, List.length_nil]); omega)) (by (have := cI_ l f; (try simp only [List.length_append, List.length_take, List.length_drop, List.length_cons, List.length_nil]); omega)) rfl fun sv5 Hr5 hr5 => ?_))))
   refine aj_ List.perm_append_comm ?_
   have hq5 : aQ_ 41 6 sv5 (List.length ((([] : List Fc) ++ (List.take (aY_ l f) l)) ++ [f])) (List.flatMap Fc.cells ((([] : List Fc) ++ (List.take (aY_ l f) l)) ++ [f])) Hr5 := by rw [List.length_append, List.flatMap_append]; exact hr5
   refine e_ (w_ rfl (N_ (fun _ a b => ⟨Vw.sat.sub (a.perm (f_ i_)), b⟩) (X_ 7 rfl (by kernel_rfl) (aI_ (news := List.flatMap Fc.cells (List.drop (aY_ l f) l)) ca_ hq5 rfl rfl (fun q => by have := hc3 (dp_ q); omega) (by rw [List.length_drop]; have := hc1; omega) (f_ S_) (by rw [bp_ Fc.cells 6 Fc.cells_len]) (fun v _ h => by exact (bv_.rest Fc.cells_len h.1 hc1 (aY_ l f))) (fun u hu => aK_ Fc.cells_one hu) (by simp only [maxLen]; (have := cI_ l f; (try simp only [List.length_append, List.length_take, List.length_drop, List.length_cons, List.length_nil]); omega)) (by (have := cI_ l f; (try simp only [List.length_append, List.length_take, List.length_drop, List.length_cons, List.length_nil]); omega)) rfl fun sv6 Hr6 hr6 => ?_))))
   refine aj_ List.perm_append_comm ?_
   have hq6 : aQ_ 41 6 sv6 (List.length (((([] : List Fc) ++ (List.take (aY_ l f) l)) ++ [f]) ++ (List.drop (aY_ l f) l))) (List.flatMap Fc.cells (((([] : List Fc) ++ (List.take (aY_ l f) l)) ++ [f]) ++ (List.drop (aY_ l f) l))) Hr6 := by rw [List.length_append, List.flatMap_append]; exact hr6
   refine e_ (w_ rfl (N_ (fun _ a b => ⟨Vw.sat.sub (a.perm (f_ i_)), b⟩) (ah_ 0 [8] (by kernel_rfl) (fun _ a b => ⟨Vw.sat.sub (a.perm (f_ i_)), b⟩) (n_ rfl (g_ rfl) rfl (ag_ (ac_ (by kernel_rfl) (b_ rfl (F_ ?_))))))))
   have ei : cT_ l f = (([] : List Fc) ++ List.take (aY_ l f) l ++ [f]) ++ List.drop (aY_ l f) l := by unfold cT_; rw [if_neg (fun q => by have q2 := (fF_ hs f).1 q; rw [hx1] at q2; simp_all)]; simp
   have h9 := hq6
   rw [show ((((([] : List Fc) ++ (List.take (aY_ l f) l)) ++ [f]) ++ (List.drop (aY_ l f) l)) : List Fc) = cT_ l f from by rw [ei]] at h9
   refine bk_ h9 (f_ S_) fun ad2 cp2 had2 hcad2 hmad2 hzad2 => ?_
   exact aw_ Tryz.results27 ⟨(ad2, cp2), hcad2, hmad2, hzad2⟩ (bU_ rfl had2) I_ (fun v _ h => ⟨h.1, trivial⟩)
  ·
   replace hr2 := of_decide_eq_true hr2
   refine t_ rfl (h_ (c_ (a_ (d_ rfl) rfl (a_ (g_ rfl) rfl (e_ (b_ rfl (F_ ?_)))))))
   have hxe : x1 = f := by assumption
   have ei : cT_ l f = l := by unfold cT_; rw [if_pos ((fF_ hs f).2 (hxe ▸ hx1))]
   exact aw_ Tryz.results27 ⟨(ad, cap), by rw [ei]; exact hc⟩ (bU_ rfl (by dsimp only; rw [ei])) I_ (fun v _ h => ⟨by show bv_ v ad ((cT_ l f).flatMap Fc.cells); rw [ei]; exact h.1, trivial⟩)
end Go.Proofs.YtpdbbglpbngeiaaGreatDoor
namespace Go.Proofs.YtpdbbglpbngeiaaGreatDoor
open Go Go.Sx Go.Proofs
attribute [local irreducible] Code.wp wpList wpAnyH
open Go.Vs
theorem dS_ (a b : Str) : Fn0 Tryz.prog 47 #[str a, str b] (Fc.val (an_ a b)) := by
  refine T_ Tryz.func47 rfl rfl Tryz.ntmps47 rfl fun v0 => ?_
  refine h_ (c_ (ao_ ak_ rfl fun b1 => ?_))
  refine e_ (b_ rfl (h_ (c_ (a_ (d_ rfl) rfl (a_ (d_ rfl) rfl (a_ (ap_ hL_ rfl rfl) rfl (Q_ 0 B_ rfl rfl rfl rfl rfl rfl (e_ (b_ rfl ?_)))))))))
  refine F_ ?_
  exact cH_ () (fun aa v h1 h2 => eB_ (us := Fc.cells (an_ a b)) 0 Tryz.results47 ai_ B_ rfl rfl rfl aa v h1 h2) I_ (fun _ _ _ => trivial)
theorem eI_ (a r b : Str) : Fn0 Tryz.prog 51 #[str a, str r, str b] (Fc.val (ax_ a r b)) := by
  refine T_ Tryz.func51 rfl rfl Tryz.ntmps51 rfl fun v0 => ?_
  refine h_ (c_ (ao_ ak_ rfl fun b1 => ?_))
  refine e_ (b_ rfl (h_ (c_ (a_ (d_ rfl) rfl (a_ (d_ rfl) rfl (a_ (d_ rfl) rfl (a_ (ap_ hL_ rfl rfl) rfl (Q_ 0 B_ rfl rfl rfl rfl rfl rfl (e_ ?_)))))))))
  refine b_ rfl (F_ ?_)
  exact cH_ () (fun aa v h1 h2 => eB_ (us := Fc.cells (ax_ a r b)) 0 Tryz.results51 ai_ B_ rfl rfl rfl aa v h1 h2) I_ (fun _ _ _ => trivial)
theorem mM_ (a r : Str) (lo hi : Int) : Fn0 Tryz.prog 52 #[str a, str r, .int .i64 lo, .int .i64 hi] (Fc.val (aP_ a r lo hi)) := by
  refine T_ Tryz.func52 rfl rfl Tryz.ntmps52 rfl fun v0 => ?_
  refine h_ (c_ (ao_ ak_ rfl fun b1 => ?_))
  refine e_ (b_ rfl (h_ (c_ (a_ (d_ rfl) rfl (a_ (d_ rfl) rfl (a_ (d_ rfl) rfl (a_ (d_ rfl) rfl (a_ (ap_ hL_ rfl rfl) rfl (Q_ 0 B_ rfl rfl rfl rfl rfl rfl ?_)))))))))
  refine e_ (b_ rfl (F_ ?_))
  exact cH_ () (fun aa v h1 h2 => eB_ (us := Fc.cells (aP_ a r lo hi)) 0 Tryz.results52 ai_ B_ rfl rfl rfl aa v h1 h2) I_ (fun _ _ _ => trivial)
theorem pQ_ (l m : List Str) (ad ae : Option Addr) (cap cpe : Nat) (hl : l.length ≤ 1000000000000) (hm : m.length ≤ 1000000000000) : Tri Tryz.prog 66 #[.slice ad (List.length l) cap, .slice ae (List.length m) cpe] [] [az_ ad (List.flatMap aO_ l), az_ ae (List.flatMap aO_ m)] (fun _ : Unit => .bool (decide (l = m))) (fun _ => []) (fun _ => []) := by
 refine T_ Tryz.func66 rfl rfl Tryz.ntmps66 rfl fun v0 => ?_
 refine h_ (c_ (a_ (g_ rfl) rfl (e_ (b_ rfl (h_ (h_ (c_ (a_ (d_ rfl) rfl (a_ (am_ D_ rfl) rfl ?_)))))))))
 refine a_ (d_ rfl) rfl (a_ (am_ D_ rfl) rfl (x_ (bN_ rfl rfl) rfl fun r1 hr1 => ?_))
 refine e_ (b_ rfl ?_)
 cases r1
 ·
  replace hr1 := bb_ hr1
  refine v_ rfl (z_ (b_ rfl (h_ (h_ (c_ (a_ (g_ rfl) rfl (e_ (b_ rfl (R_ ?_)))))))))
  refine aL_ (ι := {y : Nat // y ≤ l.length ∧ l.take y = m.take y}) (fun y => [(0, .slice ad (List.length l) cap), (1, .slice ae (List.length m) cpe), (5, .int .i64 (y.1 : Int))]) (fun y => ([])) (fun y => [az_ ad (List.flatMap aO_ l), az_ ae (List.flatMap aO_ m)]) (fun y => l.length - y.1) ⟨(0 : Nat), by simp, by simp⟩ ⟨rfl, rfl, rfl, trivial⟩ I_ (fun _ _ h => h) ?_
  rintro ⟨i, hi, he⟩
  dsimp only at hi he ⊢
  have hlm : l.length = m.length := by omega
  refine h_ (h_ (c_ (a_ (d_ rfl) rfl (a_ (d_ rfl) rfl (a_ (am_ D_ rfl) rfl (x_ (av_ rfl rfl) rfl fun r2 hr2 => ?_))))))
  refine e_ (b_ rfl ?_)
  cases r2
  ·
   replace hr2 := of_decide_eq_false hr2
   refine v_ rfl (au_ rfl (b_ rfl (h_ (c_ (a_ (g_ rfl) rfl (e_ (b_ rfl (F_ ?_))))))))
   exact aw_ Tryz.results66 () (y_ rfl (by symm; apply decide_eq_true; rwa [List.take_of_length_le (by omega), List.take_of_length_le (by omega)] at he)) I_ (fun _ _ _ => trivial)
  ·
   replace hr2 := of_decide_eq_true hr2
   have hlx1 : i < List.length l := by omega
   obtain ⟨x1, hx1⟩ : ∃ e0, l[i]? = some e0 := ⟨_, List.getElem?_eq_getElem hlx1⟩
   have hmx1 : x1 ∈ l := List.mem_of_getElem? hx1
   have hlx2 : i < List.length m := by omega
   obtain ⟨x2, hx2⟩ : ∃ e0, m[i]? = some e0 := ⟨_, List.getElem?_eq_getElem hlx2⟩
   have hmx2 : x2 ∈ m := List.mem_of_getElem? hx2
   refine t_ rfl (z_ (b_ rfl (h_ (R_ (h_ ?_)))))
   refine aS_ (by kernel_rfl) ?_
   refine ah_ 0 [0, 1, 2, 3, 4, 5, 6, 7, 8] (by kernel_rfl) (fun _ a b => ⟨bG_ a, b⟩) (n_ rfl (d_ rfl) rfl (n_ rfl (d_ rfl) rfl (n_ rfl (aa_ D_ j_ rfl rfl (fun v _ h => ay_ (n := 1) at_ (by decide) (by exact h.1) hx1) (by omega) (by first | omega | (simp; done))) rfl (n_ rfl (aN_ (ad := ad) q_ rfl (fun v _ h => by exact h.1) (ad_ at_ hx1 0 _ rfl)) rfl (n_ rfl (d_ rfl) rfl (n_ rfl (d_ rfl) rfl (n_ rfl (aa_ D_ j_ rfl rfl (fun v _ h => ay_ (n := 1) at_ (by decide) (by exact h.2.1) hx2) (by omega) (by first | omega | (simp; done))) rfl (n_ rfl (aN_ (ad := ae) q_ rfl (fun v _ h => by exact h.2.1) (ad_ at_ hx2 0 _ rfl)) rfl ?_))))))))
   refine cl_ rfl (dL_ rfl rfl) rfl fun r3 hr3 => ?_
   refine ag_ (ac_ (by kernel_rfl) (b_ rfl ?_))
   cases r3
   ·
    replace hr3 := bb_ hr3
    refine v_ rfl (z_ (b_ rfl (c_ (a_ (d_ rfl) rfl (a_ (M_ rfl rfl rfl (af_ (by omega) (by omega))) rfl (a_ (g_ rfl) rfl (e_ (w_ rfl ?_))))))))
    exact Z_ ⟨i + 1, hlx1, by rw [List.take_add_one, hx1, List.take_add_one, hx2, he]; simp_all⟩ (by dsimp only; omega) ⟨rfl, rfl, rfl, trivial⟩ I_ (fun _ _ h => h)
   ·
    replace hr3 := ba_ hr3
    refine t_ rfl (h_ (c_ (a_ (g_ rfl) rfl (e_ (b_ rfl (F_ ?_))))))
    exact aw_ Tryz.results66 () (y_ rfl (by symm; apply decide_eq_false; intro e; subst e; rw [hx1] at hx2; simp_all)) I_ (fun _ _ _ => trivial)
 ·
  replace hr1 := ba_ hr1
  refine t_ rfl (h_ (c_ (a_ (g_ rfl) rfl (e_ (b_ rfl (F_ ?_))))))
  exact aw_ Tryz.results66 () (y_ rfl (by symm; apply decide_eq_false; intro e; subst e; omega)) I_ (fun _ _ _ => trivial)
theorem kq_ (l m : List Fc) (ad ae : Option Addr) (cap cpe : Nat) (hl : l.length ≤ 1000000000000) (hm : m.length ≤ 1000000000000) : Tri Tryz.prog 24 #[.slice ad (List.length l) cap, .slice ae (List.length m) cpe] [] [az_ ad (List.flatMap Fc.cells l), az_ ae (List.flatMap Fc.cells m)] (fun _ : Unit => .bool (decide (l = m))) (fun _ => []) (fun _ => []) := by
 refine T_ Tryz.func24 rfl rfl Tryz.ntmps24 rfl fun v0 => ?_
 refine h_ (c_ (a_ (g_ rfl) rfl (e_ (b_ rfl (h_ (h_ (c_ (a_ (d_ rfl) rfl (a_ (am_ G_ rfl) rfl ?_)))))))))
 refine a_ (d_ rfl) rfl (a_ (am_ G_ rfl) rfl (x_ (bN_ rfl rfl) rfl fun r1 hr1 => ?_))
 refine e_ (b_ rfl ?_)
 cases r1
 ·
  replace hr1 := bb_ hr1
  refine v_ rfl (z_ (b_ rfl (h_ (h_ (c_ (a_ (g_ rfl) rfl (e_ (b_ rfl (R_ ?_)))))))))
  refine aL_ (ι := {y : Nat // y ≤ l.length ∧ l.take y = m.take y}) (fun y => [(0, .slice ad (List.length l) cap), (1, .slice ae (List.length m) cpe), (5, .int .i64 (y.1 : Int))]) (fun y => ([])) (fun y => [az_ ad (List.flatMap Fc.cells l), az_ ae (List.flatMap Fc.cells m)]) (fun y => l.length - y.1) ⟨(0 : Nat), by simp, by simp⟩ ⟨rfl, rfl, rfl, trivial⟩ I_ (fun _ _ h => h) ?_
  rintro ⟨i, hi, he⟩
  dsimp only at hi he ⊢
  have hlm : l.length = m.length := by omega
  refine h_ (h_ (c_ (a_ (d_ rfl) rfl (a_ (d_ rfl) rfl (a_ (am_ G_ rfl) rfl (x_ (av_ rfl rfl) rfl fun r2 hr2 => ?_))))))
  refine e_ (b_ rfl ?_)
  cases r2
  ·
   replace hr2 := of_decide_eq_false hr2
   refine v_ rfl (au_ rfl (b_ rfl (h_ (c_ (a_ (g_ rfl) rfl (e_ (b_ rfl (F_ ?_))))))))
   exact aw_ Tryz.results24 () (y_ rfl (by symm; apply decide_eq_true; rwa [List.take_of_length_le (by omega), List.take_of_length_le (by omega)] at he)) I_ (fun _ _ _ => trivial)
  ·
   replace hr2 := of_decide_eq_true hr2
   have hlx1 : i < List.length l := by omega
   obtain ⟨x1, hx1⟩ : ∃ e0, l[i]? = some e0 := ⟨_, List.getElem?_eq_getElem hlx1⟩
   have hmx1 : x1 ∈ l := List.mem_of_getElem? hx1
   have hlx2 : i < List.length m := by omega
   obtain ⟨x2, hx2⟩ : ∃ e0, m[i]? = some e0 := ⟨_, List.getElem?_eq_getElem hlx2⟩
   have hmx2 : x2 ∈ m := List.mem_of_getElem? hx2
   refine t_ rfl (z_ (b_ rfl (h_ (R_ (h_ ?_)))))
   refine aS_ (by kernel_rfl) ?_
   refine ah_ 0 [0, 1, 2, 3, 4, 5, 6, 7, 8] (by kernel_rfl) (fun _ a b => ⟨bG_ a, b⟩) (n_ rfl (d_ rfl) rfl (n_ rfl (d_ rfl) rfl (n_ rfl (aa_ G_ B_ rfl rfl (fun v _ h => ay_ (n := 6) Fc.cells_len (by decide) (by exact h.1) hx1) (by omega) (by first | omega | (simp; done))) rfl (n_ rfl (aU_ (ad := ad) (us := Fc.cells x1) ai_ B_ rfl (fun v _ h => by exact h.1) (Fc.cells_len _) (ad_ Fc.cells_len hx1)) rfl (n_ rfl (d_ rfl) rfl (n_ rfl (d_ rfl) rfl (n_ rfl (aa_ G_ B_ rfl rfl (fun v _ h => ay_ (n := 6) Fc.cells_len (by decide) (by exact h.2.1) hx2) (by omega) (by first | omega | (simp; done))) rfl (n_ rfl (aU_ (ad := ae) (us := Fc.cells x2) ai_ B_ rfl (fun v _ h => by exact h.2.1) (Fc.cells_len _) (ad_ Fc.cells_len hx2)) rfl ?_))))))))
   refine cl_ rfl (eW_ (p := x1) (q := x2) rfl rfl) rfl fun r3 hr3 => ?_
   refine ag_ (ac_ (by kernel_rfl) (b_ rfl ?_))
   cases r3
   ·
    replace hr3 := of_decide_eq_false hr3
    refine v_ rfl (z_ (b_ rfl (c_ (a_ (d_ rfl) rfl (a_ (M_ rfl rfl rfl (af_ (by omega) (by omega))) rfl (a_ (g_ rfl) rfl (e_ (w_ rfl ?_))))))))
    exact Z_ ⟨i + 1, hlx1, by rw [List.take_add_one, hx1, List.take_add_one, hx2, he]; simp_all⟩ (by dsimp only; omega) ⟨rfl, rfl, rfl, trivial⟩ I_ (fun _ _ h => h)
   ·
    replace hr3 := of_decide_eq_true hr3
    refine t_ rfl (h_ (c_ (a_ (g_ rfl) rfl (e_ (b_ rfl (F_ ?_))))))
    exact aw_ Tryz.results24 () (y_ rfl (by symm; apply decide_eq_false; intro e; subst e; rw [hx1] at hx2; simp_all)) I_ (fun _ _ _ => trivial)
 ·
  replace hr1 := ba_ hr1
  refine t_ rfl (h_ (c_ (a_ (g_ rfl) rfl (e_ (b_ rfl (F_ ?_))))))
  exact aw_ Tryz.results24 () (y_ rfl (by symm; apply decide_eq_false; intro e; subst e; omega)) I_ (fun _ _ _ => trivial)
theorem pR_ (c d : Cl) (h1 : c.atoms.length ≤ 1000000000000) (h2 : c.facts.length ≤ 1000000000000) (h3 : d.atoms.length ≤ 1000000000000) (h4 : d.facts.length ≤ 1000000000000) : Tri Tryz.prog 20 #[Cl.val c, Cl.val d] [] [az_ (Cl.aad c) (List.flatMap aO_ (Cl.atoms c)), az_ (Cl.fad c) (List.flatMap Fc.cells (Cl.facts c)), az_ (Cl.aad d) (List.flatMap aO_ (Cl.atoms d)), az_ (Cl.fad d) (List.flatMap Fc.cells (Cl.facts d))] (fun _ : Unit => .bool (decide (c.atoms = d.atoms) && decide (c.facts = d.facts))) (fun _ => []) (fun _ => []) := by
  refine T_ Tryz.func20 rfl rfl Tryz.ntmps20 rfl fun v0 => ?_
  refine h_ (c_ (bs_ rfl rfl fun b1 => ?_))
  refine bs_ rfl rfl fun b2 => ?_
  refine a_ (g_ rfl) rfl (e_ (b_ rfl (h_ (c_ (a_ (l_ aB_ rfl rfl rfl da_) rfl (a_ (u_ 1 gu_ rfl rfl rfl) rfl (a_ (l_ aB_ rfl rfl rfl da_) rfl (a_ (u_ 0 gu_ rfl rfl rfl) rfl (as_ (pQ_ (Cl.atoms c) (Cl.atoms d) (Cl.aad c) (Cl.aad d) (Cl.acap c) (Cl.acap d) (by omega) (by omega)) rfl I_ (fun v _ h => by exact ⟨h.1, h.2.2.1, trivial⟩) rfl fun r1 hr1 => ?_)))))))))
  refine a_ (d_ rfl) rfl ?_
  cases r1
  · skip
    replace hr1 := of_decide_eq_false hr1
    refine r_ rfl rfl rfl rfl (r_ rfl rfl rfl rfl (r_ rfl rfl rfl rfl (r_ rfl rfl rfl rfl (r_ rfl rfl rfl rfl (a_ (C_ rfl rfl) rfl (a_ (g_ rfl) rfl (e_ (b_ rfl (F_ ?_)))))))))
    exact aw_ Tryz.results20 () (y_ rfl (by have p1 := eq_false hr1; simp only [p1, if_true, if_false, decide_true, decide_false, Bool.and_true, Bool.and_false, Bool.true_and, Bool.false_and, Bool.or_true, Bool.or_false, Bool.true_or, Bool.false_or, Bool.not_true, Bool.not_false, ne_eq, not_true_eq_false, not_false_eq_true, true_and, and_true, false_and, and_false, true_or, or_true, false_or, or_false, ite_true, ite_false, Bool.false_eq_true])) I_ (fun _ _ _ => trivial)
  · skip
    replace hr1 := of_decide_eq_true hr1
    refine p_ rfl rfl (a_ (l_ aB_ rfl rfl rfl bl_) rfl (p_ rfl rfl (a_ (u_ 1 bt_ rfl rfl rfl) rfl (p_ rfl rfl (a_ (l_ aB_ rfl rfl rfl bl_) rfl (p_ rfl rfl (a_ (u_ 0 bt_ rfl rfl rfl) rfl (p_ rfl rfl (as_ (kq_ (Cl.facts c) (Cl.facts d) (Cl.fad c) (Cl.fad d) (Cl.fcap c) (Cl.fcap d) (by omega) (by omega)) rfl I_ (fun v _ h => by exact ⟨h.2.1, h.2.2.2.1, trivial⟩) rfl fun r2 hr2 => ?_)))))))))
    refine a_ (H_ rfl rfl) rfl (a_ (g_ rfl) rfl (e_ (b_ rfl (F_ ?_))))
    exact aw_ Tryz.results20 () (y_ rfl (by have p1 := eq_true hr1; rw [← hr2]; simp only [p1, if_true, if_false, decide_true, decide_false, Bool.and_true, Bool.and_false, Bool.true_and, Bool.false_and, Bool.or_true, Bool.or_false, Bool.true_or, Bool.false_or, Bool.not_true, Bool.not_false, ne_eq, not_true_eq_false, not_false_eq_true, true_and, and_true, false_and, and_false, true_or, or_true, false_or, or_false, ite_true, ite_false, Bool.false_eq_true])) I_ (fun _ _ _ => trivial)
end Go.Proofs.YtpdbbglpbngeiaaGreatDoor
namespace Go.Proofs.YtpdbbglpbngeiaaGreatDoor
open Go Go.Sx Go.Proofs
attribute [local irreducible] Code.wp wpList wpAnyH
open Go.Vs
def pC_ (p : List Pc) (at' : List Str) (fs l : List Fc) (e : Int) : Prop :=
  if bM_ p ≠ 0 then l = [] ∧ e = bM_ p
  else if mB_ at' fs ≠ 0 then l = [] ∧ e = mB_ at' fs
  else e = 0 ∧ Srt l ∧ ∀ y, y ∈ l ↔ fv_ p (atS p) (· ∈ fs) y ∧ y ∉ fs
end Go.Proofs.YtpdbbglpbngeiaaGreatDoor
namespace Go.Proofs.YtpdbbglpbngeiaaGreatDoor
open Go Go.Sx Go.Proofs
attribute [local irreducible] Code.wp wpList wpAnyH
open Go.Vs
theorem dI_.good {p : List Pc} {bu : Int} {c : Cl} (h : dI_ p bu c 0) : bM_ p = 0 ∧ 0 ≤ bu ∧ bu ≤ 1073741824 ∧ c.ok ∧ c.atoms = atS p ∧ dt_ p (atS p) (min bu 65536).toNat (some c.facts) := by
  unfold dI_ at h
  split at h
  · rename_i h1; exact absurd h.2.symm h1
  · rename_i h1
    split at h
    · exact absurd h.2 (by decide)
    · rename_i h2
      rcases h with h | h
      · exact ⟨by simpa using h1, by omega, by omega, h.2⟩
      · have := h.2.1; split at this <;> exact absurd this (by decide)
theorem dI_.bad {p : List Pc} {bu : Int} {c : Cl} {e : Int} (h : dI_ p bu c e) (he : e ≠ 0) : c = Cl.no := by
  unfold dI_ at h
  split at h
  · exact h.1
  · split at h
    · exact h.1
    · rcases h with h | h
      · exact absurd h.1 he
      · exact h.1
theorem dI_.ok {p : List Pc} {bu : Int} {c : Cl} {e : Int} (h : dI_ p bu c e) : c.ok := by
  by_cases he : e = 0
  · subst he; exact h.good.2.2.2.1
  · rw [h.bad he]; exact Cl.no_ok
theorem dI_.len {p : List Pc} {bu : Int} {c : Cl} {e : Int} (h : dI_ p bu c e) : c.atoms.length ≤ 3 * p.length + 2 ∧ c.facts.length ≤ 65536 := by
  by_cases he : e = 0
  · subst he
    obtain ⟨_, _, _, _, h1, h2⟩ := h.good
    refine ⟨by rw [h1]; exact kM_ p, ?_⟩
    have := h2.2.2
    omega
  · rw [h.bad he]; simp [Cl.no]
theorem iu_ {p : List Pc} {bu : Int} {c : Cl} {e : Int} {r : Option (List Fc)} (h : dI_ p bu c e) (hc : bM_ p = 0) (hb : 0 ≤ bu) (hb2 : bu ≤ 1073741824) (hr : dt_ p (atS p) (min bu 65536).toNat r) : (∀ L, r = some L → e = 0 ∧ c.facts = L ∧ c.atoms = atS p) ∧ (r = none → c = Cl.no ∧ e = if bu < 65536 then 3 else 2) := by
  unfold dI_ at h
  rw [if_neg (by simp [hc]), if_neg (by omega)] at h
  rcases h with ⟨h1, h2, h3, h4⟩ | ⟨h1, h2, h3⟩
  · have e := dt_.uniq h4 hr
    subst e
    exact ⟨fun L hL => ⟨h1, Option.some.inj hL, h3⟩, fun h => (by cases h)⟩
  · have e := dt_.uniq h3 hr
    subst e
    exact ⟨fun L hL => (by cases hL), fun _ => ⟨h1, h2⟩⟩
theorem pC_.good {p : List Pc} {at' : List Str} {fs l : List Fc} {e : Int} (h : pC_ p at' fs l e) (hp : bM_ p = 0) (hc : mB_ at' fs = 0) : e = 0 ∧ Srt l ∧ ∀ y, y ∈ l ↔ fv_ p (atS p) (· ∈ fs) y ∧ y ∉ fs := by
  unfold pC_ at h
  rw [if_neg (by simp [hp]), if_neg (by simp [hc])] at h
  exact h
end Go.Proofs.YtpdbbglpbngeiaaGreatDoor
namespace Go.Proofs.YtpdbbglpbngeiaaGreatDoor
open Go Go.Sx Go.Proofs
attribute [local irreducible] Code.wp wpList wpAnyH
open Go.Vs
theorem of_ {N : Nat} {fr : Fr} {H : Hp} {Γ : List Fct} {P : Program} {ty t t' : TypeId} {x y : Operand} {m n : Int} (hx : Fr.ev fr x = some (.int .i64 m)) (hy : Fr.ev fr y = some (.int .i64 n)) : Yld P N fr H Γ (.binOp .add t x y t') ty (.int .i64 (IntKind.wrap .i64 (m + n))) :=
  fun a v h1 _ _ _ _ _ => by simp [execOp, h1.ev hx, h1.ev hy, eqGuard, binOp, Op.intArith]
def iP_ (x : Pc) : Int := (x.a.length : Int) + (x.b.length : Int) + (x.c.length : Int) + (x.r.length : Int) + (x.s.length : Int) + (x.t.length : Int)
def gh_ : List Pc → Int
  | [] => 0
  | x :: l => iP_ x + gh_ l
theorem ka_ : ∀ (l : List Pc) (x : Pc), gh_ (l ++ [x]) = gh_ l + iP_ x
  | [], x => by simp [gh_]
  | y :: l, x => by simp only [List.cons_append, gh_, ka_ l x]; omega
theorem nz_ {p : List Pc} {i : Nat} {x : Pc} (h : p[i]? = some x) : gh_ (p.take (i + 1)) = gh_ (p.take i) + iP_ x := by
  rw [List.take_add_one, h, Option.toList_some, ka_]
theorem ly_ : ∀ {l : List Pc}, (∀ x ∈ l, x.big) → 0 ≤ gh_ l ∧ gh_ l ≤ l.length * 844424930107392
  | [], _ => by simp [gh_]
  | x :: l, h => by
    have h1 := ly_ (l := l) fun y hy => h y (by simp [hy])
    obtain ⟨a, b, c, d, e, f⟩ := h x (by simp)
    simp only [gh_, iP_, List.length_cons]
    omega
theorem mV_ : ∀ {l : List Pc} {n : Int}, gh_ l ≤ n → n ≤ 17592186044414 → ∀ x ∈ l, x.sm
  | [], _, _, _, x, hx => by simp at hx
  | y :: l, n, h, hn, x, hx => by
    have h0 : 0 ≤ gh_ l := plen_pos l
    simp only [gh_, iP_] at h
    rcases List.mem_cons.1 hx with rfl | hx
    · exact ⟨by omega, by omega, by omega, by omega, by omega, by omega⟩
    · exact mV_ (l := l) (n := n) (by omega) hn x hx
where plen_pos : ∀ l : List Pc, 0 ≤ gh_ l
  | [] => by simp [gh_]
  | x :: l => by have := plen_pos l; simp only [gh_, iP_]; omega
theorem kL_ : atS [] = [[33], [42]] := eA_ eh_ List.lt_trans (jz_ []) (by decide) fun x => by
  rw [it_, eF_]
  simp [cw_, or_comm]
def A3 : List Str := [[33], [42], [65], [66], [67]]
theorem kw_ : bM_ [] = 0 := by decide +kernel
def F0 : List Fc := gQ_ [] [[33], [42]] 3
theorem F0_is (m : Nat) (hm : 3 ≤ m) : dt_ [] [[33], [42]] m (some F0) := hH_ (fun x hx => by simp at hx) 3 m (by decide +kernel) (Nat.le_trans (by decide +kernel) hm)
theorem F0_no : dt_ [] [[33], [42]] 2 none := nW_ (fun x hx => by simp at hx) 3 2 (by decide +kernel)
theorem sane2 {c : Cl} {e : Int} (h : dI_ [] 2 c e) : e = 3 ∧ c = Cl.no := by
  have := (iu_ h kw_ (by decide) (by decide) (r := none) (by rw [kL_]; exact F0_no)).2 rfl
  exact ⟨this.2, this.1⟩
theorem pD_ : F0.length = 3 := by decide +kernel
end Go.Proofs.YtpdbbglpbngeiaaGreatDoor
namespace Go.Proofs.YtpdbbglpbngeiaaGreatDoor
open Go Go.Sx Go.Proofs
attribute [local irreducible] Code.wp wpList wpAnyH
open Go.Vs
def fu_ (p q : List Pc) : Prop := ∀ x ∈ p, ∃ y ∈ q, ∃ n, { y with frm := n } = x
theorem fu_.rfl' (p : List Pc) : fu_ p p := fun x hx => ⟨x, hx, x.frm, rfl⟩
theorem fu_.of {p q : List Pc} (h : ∀ x ∈ p, x ∈ q) : fu_ p q := fun x hx => ⟨x, h x hx, x.frm, rfl⟩
theorem fu_.at' {p q : List Pc} (h : fu_ p q) : ∀ s ∈ atS p, s ∈ atS q := fun s hs => by
  rw [it_, eF_] at hs ⊢
  rcases hs with h1 | h1
  · obtain ⟨x, hx, h2⟩ := List.mem_flatMap.1 h1
    obtain ⟨y, hy, n, e⟩ := h x hx
    subst e
    exact .inl (List.mem_flatMap.2 ⟨y, hy, h2⟩)
  · exact .inr h1
theorem fu_.der {p q : List Pc} (h : fu_ p q) {y : Fc} (hy : Der p (atS p) y) : Der q (atS q) y := hy.mono h h.at'
theorem fu_.atS_eq {p q : List Pc} (h : fu_ p q) (h' : fu_ q p) : atS p = atS q :=
  eA_ eh_ List.lt_trans (jz_ p) (jz_ q) fun x => ⟨h.at' x, h'.at' x⟩
theorem dt_.congrP {p q : List Pc} {m : Nat} {r : Option (List Fc)} (h : fu_ p q) (h' : fu_ q p) (hr : dt_ p (atS p) m r) : dt_ q (atS q) m r := by
  cases r with
  | none => obtain ⟨M, h1, h2, h3⟩ := hr; exact ⟨M, h1, fun y hy => h.der (h2 y hy), h3⟩
  | some L => exact ⟨hr.1, fun y => (hr.2.1 y).trans ⟨h.der, h'.der⟩, hr.2.2⟩
theorem qA_ {p : List Pc} {bu : Int} {c : Cl} {e : Int} (h : dI_ p bu c e) (hc : bM_ p = 0) (hb : 0 ≤ bu) (hb2 : bu ≤ 1073741824) : (e = 0 ∧ c.atoms = atS p ∧ dt_ p (atS p) (min bu 65536).toNat (some c.facts)) ∨ (c = Cl.no ∧ e = (if bu < 65536 then 3 else 2) ∧ dt_ p (atS p) (min bu 65536).toNat none) := by
  unfold dI_ at h
  rw [if_neg (by simp [hc]), if_neg (by omega)] at h
  rcases h with ⟨h1, _, h2, h3⟩ | h
  · exact .inl ⟨h1, h2, h3⟩
  · exact .inr h
theorem ob_ {p q : List Pc} {bu : Int} {c d : Cl} {e f : Int} (h : fu_ p q) (h' : fu_ q p) (hp : dI_ p bu c e) (hq : dI_ q bu d f) (hc : bM_ p = 0) (hd : bM_ q = 0) (hb : 0 ≤ bu) (hb2 : bu ≤ 1073741824) : c.atoms = d.atoms ∧ c.facts = d.facts ∧ e = f := by
  rcases qA_ hp hc hb hb2 with ⟨h1, h2, h3⟩ | ⟨h1, h2, h3⟩
  · obtain ⟨g1, g2, g3⟩ := (iu_ hq hd hb hb2 (dt_.congrP h h' h3)).1 _ rfl
    exact ⟨by rw [h2, g3, h.atS_eq h'], g2.symm, by rw [h1, g1]⟩
  · obtain ⟨g1, g2⟩ := (iu_ hq hd hb hb2 (dt_.congrP h h' h3)).2 rfl
    subst h1 g1
    exact ⟨rfl, rfl, by rw [h2, g2]⟩
theorem dI_.srt {p : List Pc} {bu : Int} {c : Cl} {e : Int} (h : dI_ p bu c e) : Srt c.facts := by
  by_cases he : e = 0
  · subst he; exact h.good.2.2.2.2.2.1
  · rw [h.bad he]; exact List.Pairwise.nil
def Pc.nf (x : Pc) : Pc := ⟨x.kind, x.a, x.b, x.c, x.r, x.s, x.t, x.lo, x.hi, -1⟩
theorem fu_.trans {p q r : List Pc} (h : fu_ p q) (k : fu_ q r) : fu_ p r := fun x hx => by
  obtain ⟨y, hy, n, rfl⟩ := h x hx
  obtain ⟨z, hz, m, rfl⟩ := k y hy
  exact ⟨z, hz, n, rfl⟩
end Go.Proofs.YtpdbbglpbngeiaaGreatDoor
namespace Go.Proofs.YtpdbbglpbngeiaaGreatDoor
open Go Go.Sx Go.Proofs
attribute [local irreducible] Code.wp wpList wpAnyH
open Go.Vs
theorem br_ {α β : Type} {g : α → List β} {l : List α} {i : Nat} {x : α} (h : l[i]? = some x) : List.flatMap g (List.take (i + 1) l) = List.flatMap g (List.take i l) ++ g x := by
  rw [List.take_add_one, h, Option.toList_some, List.flatMap_append]; simp
def eK_ (a : Str) (x : Pc) : List Fc := if x.kind = 7 then [ax_ a x.r a] else []
def dW_ (p : List Pc) (a : Str) : List Fc := [an_ a a, an_ a [42]] ++ List.flatMap (eK_ a) p
theorem kk_ (p : List Pc) (A : List Str) : eE_ p A = List.flatMap (dW_ p) A := by
  unfold eE_
  congr 1
  funext a
  unfold dW_
  simp only [List.cons_append, List.nil_append, List.cons.injEq, true_and]
  induction p with
  | nil => rfl
  | cons x p ih =>
    rw [List.filter_cons, List.flatMap_cons, ← ih, eK_]
    by_cases h : x.kind = 7
    · rw [if_pos (by simpa using h), if_pos h]; rfl
    · rw [if_neg (by simpa using h), if_neg h]; rfl
theorem kf_ (a : Str) (x : Pc) : (eK_ a x).length ≤ 1 := by unfold eK_; split <;> simp
theorem jn_ {p : List Pc} (hp : p.length ≤ 100) (a : Str) : (dW_ p a).length ≤ 102 := by
  have := dG_ (g := eK_ a) (n := 1) p fun x _ => kf_ a x
  unfold dW_
  rw [List.length_append]; simp only [List.length_cons, List.length_nil]; omega
def cu_ (l : List Fc) (f : Fc) (x : Pc) : List Fc :=
  if x.kind = 1 ∧ x.a = f.b then [an_ f.a x.c]
  else if x.kind = 2 ∧ (x.a = f.b ∧ an_ f.a x.b ∈ l ∨ x.b = f.b ∧ an_ f.a x.a ∈ l) then [an_ f.a x.c]
  else if x.kind = 3 ∧ x.a = f.b then [ax_ f.a x.r x.c]
  else if x.kind = 8 ∧ x.a = f.b then [aP_ f.a x.r x.lo x.hi]
  else []
def cL_ (f y : Fc) (x : Pc) : List Fc := if x.kind = 4 ∧ x.r = y.r ∧ x.a = f.b then [an_ y.a x.c] else []
theorem im_ (p : List Pc) (f y : Fc) : subB p f y = if y.kind ≠ 2 ∨ y.b ≠ f.a then [] else (if f.b = [33] then [an_ y.a [33]] else []) ++ List.flatMap (cL_ f y) p := rfl
theorem jP_ (l : List Fc) (f : Fc) (x : Pc) : (cu_ l f x).length ≤ 1 := by unfold cu_; (repeat' split) <;> simp
theorem hK_ (f y : Fc) (x : Pc) : (cL_ f y x).length ≤ 1 := by unfold cL_; split <;> simp
theorem on_ {p : List Pc} (hp : p.length ≤ 100) (f y : Fc) : (subB p f y).length ≤ 101 := by
  have := dG_ (g := cL_ f y) (n := 1) p fun x _ => hK_ f y x
  rw [im_]
  split
  · simp
  · rw [List.length_append]; split <;> simp only [List.length_cons, List.length_nil] <;> omega
theorem hS_ (x : Pc) (f y : Fc) : (bQ_ x f y).length ≤ 2 := by unfold bQ_; (repeat' split) <;> simp
theorem kg_ {l : List Fc} (hl : l.length ≤ 65536) (f : Fc) (x : Pc) : (bF_ l f x).length ≤ 131072 := by
  unfold bF_
  split
  · simp
  · split
    · simp
    · split
      · have := dG_ (g := bQ_ x f) (n := 2) l fun y _ => hS_ x f y
        omega
      · simp
theorem iJ_ (f y : Fc) : (co_ f y).length ≤ 1 := by unfold co_; (repeat' split) <;> simp
theorem mj_ (f : Fc) (x : Pc) : (cV_ f x).length ≤ 1 := by unfold cV_; split <;> simp
theorem oB_ (p : List Pc) (pad : Option Addr) (pcap : Nat) (A : List Str) (aad : Option Addr) (acap : Nat) (hp : p.length ≤ 100) (hA : A.length ≤ 1000) : Tri Tryz.prog 64 #[.slice pad (List.length p) pcap, .slice aad (List.length A) acap] [] [az_ pad (List.flatMap Pc.cells p), az_ aad (List.flatMap aO_ A)] (fun y : {y : Value × Hp // aQ_ 41 6 y.1 (List.length (eE_ p A)) (List.flatMap Fc.cells (eE_ p A)) y.2} => y.1.1) (fun y => y.1.2) (fun _ => []) := by
 refine T_ Tryz.func64 rfl rfl Tryz.ntmps64 rfl fun v0 => ?_
 refine h_ (c_ (a_ (g_ rfl) rfl (e_ (b_ rfl (h_ (c_ (cF_ G_ B_ rfl fun b1 => ?_)))))))
 refine aj_ i_ (a_ (g_ rfl) rfl (e_ (b_ rfl (h_ (h_ (c_ (a_ (g_ rfl) rfl (e_ (b_ rfl ?_)))))))))
 refine R_ ?_
 refine aL_ (ι := {y : Nat × Value × Hp // y.1 ≤ List.length A ∧ aQ_ 41 6 y.2.1 (List.length (List.flatMap (dW_ p) (List.take y.1 A))) (List.flatMap Fc.cells (List.flatMap (dW_ p) (List.take y.1 A))) y.2.2}) (fun y => [(0, .slice pad (List.length p) pcap), (1, .slice aad (List.length A) acap), (4, .slice none 0 0), (5, y.1.2.1), (6, .int .i64 (y.1.1 : Int))]) (fun y => (y.1.2.2)) (fun y => [az_ pad (List.flatMap Pc.cells p), az_ aad (List.flatMap aO_ A)]) (fun y => List.length A - y.1.1) ⟨((0 : Nat), (.slice (some ⟨b1, 0, none⟩) 0 0), [(b1, .cells #[] 41 (0, 0))]), by simp, (do_ b1 41 6)⟩ ⟨rfl, rfl, rfl, rfl, rfl, trivial⟩ aD_ (fun _ _ h => h) ?_
 rintro ⟨⟨i, sv_Rfc, H_Rfc⟩, hi_i, hr_Rfc⟩
 dsimp only at hi_i hr_Rfc ⊢
 have hb1 := dG_ (g := dW_ p) (n := 102) (List.take i A) (fun x _ => jn_ hp x)
 rw [List.length_take] at hb1
 refine h_ (h_ (c_ (a_ (d_ rfl) rfl (a_ (d_ rfl) rfl (a_ (am_ D_ rfl) rfl (x_ (av_ rfl rfl) rfl fun r1 hr1 => ?_))))))
 refine e_ (b_ rfl ?_)
 cases r1
 ·
  replace hr1 := of_decide_eq_false hr1
  rw [show List.take i A = A from List.take_of_length_le (by omega)] at hr_Rfc
  refine v_ rfl (au_ rfl (b_ rfl (h_ (c_ (a_ (d_ rfl) rfl (a_ (g_ rfl) rfl (e_ (b_ rfl (F_ ?_)))))))))
  exact aw_ Tryz.results64 ⟨(sv_Rfc, H_Rfc), (kk_ p A) ▸ hr_Rfc⟩ rfl aD_ (fun _ _ _ => trivial)
 ·
  replace hr1 := of_decide_eq_true hr1
  have hlx1 : i < List.length A := by omega
  obtain ⟨x1, hx1⟩ : ∃ e0, A[i]? = some e0 := ⟨_, List.getElem?_eq_getElem hlx1⟩
  have hmx1 : x1 ∈ A := List.mem_of_getElem? hx1
  refine t_ rfl (z_ (b_ rfl (h_ (R_ (h_ ?_)))))
  refine aR_ ([]) (by kernel_rfl) ?_
  refine ah_ 5 [0, 1, 2, 3, 4, 5, 6, 7, 8, 10, 11, 12, 13] (by kernel_rfl) (fun _ a b => ⟨bG_ a, b⟩) (n_ rfl (d_ rfl) rfl (n_ rfl (d_ rfl) rfl (n_ rfl (d_ rfl) rfl (n_ rfl (aa_ D_ j_ rfl rfl (fun v _ h => ay_ (n := 1) at_ (by decide) (by exact h.2.1) hx1) (by omega) (by first | omega | (simp; done))) rfl (n_ rfl (aN_ (ad := aad) q_ rfl (fun v _ h => by exact h.2.1) (ad_ at_ hx1 0 _ rfl)) rfl (n_ rfl (d_ rfl) rfl (n_ rfl (d_ rfl) rfl (n_ rfl (aa_ D_ j_ rfl rfl (fun v _ h => ay_ (n := 1) at_ (by decide) (by exact h.2.1) hx1) (by omega) (by first | omega | (simp; done))) rfl (n_ rfl (aN_ (ad := aad) q_ rfl (fun v _ h => by exact h.2.1) (ad_ at_ hx1 0 _ rfl)) rfl ?_)))))))))
  refine n_ rfl (d_ rfl) rfl (n_ rfl (d_ rfl) rfl (n_ rfl (aa_ D_ j_ rfl rfl (fun v _ h => ay_ (n := 1) at_ (by decide) (by exact h.2.1) hx1) (by omega) (by first | omega | (simp; done))) rfl (n_ rfl (aN_ (ad := aad) q_ rfl (fun v _ h => by exact h.2.1) (ad_ at_ hx1 0 _ rfl)) rfl (ag_ (X_ 9 rfl (by kernel_rfl) (W_ (dS_ x1 x1) rfl I_ (fun _ _ _ => by exact trivial) rfl fun _ => ?_))))))
  refine aj_ ht_ (e_ (w_ rfl (N_ (fun _ a b => ⟨bG_ a, b⟩) (X_ 14 rfl (by kernel_rfl) (W_ (dS_ x1 [42]) rfl I_ (fun _ _ _ => by exact trivial) rfl fun _ => ?_)))))
  refine aj_ ht_ (e_ (w_ rfl (N_ (fun _ a b => ⟨bG_ a, b⟩) (X_ 15 rfl (by kernel_rfl) (aJ_ G_ B_ ak_ rfl rfl rfl rfl rfl rfl fun b2 => ?_)))))
  refine bz_ (List.flatMap Fc.cells [(an_ x1 x1), (an_ x1 [42])]) i_ rfl ?_
  refine e_ (w_ rfl (N_ (fun _ a b => ⟨bG_ a, b.2⟩) (X_ 16 rfl (by kernel_rfl) (aI_ (news := List.flatMap Fc.cells [(an_ x1 x1), (an_ x1 [42])]) ca_ hr_Rfc rfl rfl (fun q => by cases q) (by simp) aD_ (by rw [bp_ Fc.cells 6 Fc.cells_len]; rfl) (fun v _ h => by exact h.1) (fun u hu => aK_ Fc.cells_one hu) (by simp only [maxLen]; ((try simp only [List.length_append, List.length_cons, List.length_nil]); omega)) (by ((try simp only [List.length_append, List.length_cons, List.length_nil]); omega)) rfl fun sv1 Hr1 hr1 => ?_))))
  refine aj_ List.perm_append_comm ?_
  have hq1 : aQ_ 41 6 sv1 (List.length ((List.flatMap (dW_ p) (List.take i A)) ++ [(an_ x1 x1), (an_ x1 [42])])) (List.flatMap Fc.cells ((List.flatMap (dW_ p) (List.take i A)) ++ [(an_ x1 x1), (an_ x1 [42])])) Hr1 := by rw [List.length_append, List.flatMap_append]; exact hr1
  refine e_ (w_ rfl (N_ (fun _ a b => ⟨bG_ a, b.2⟩) (ah_ 0 [17] (by kernel_rfl) (fun _ a b => ⟨bG_ a, b.2⟩) (n_ rfl (g_ rfl) rfl (ag_ (ac_ (by kernel_rfl) (b_ rfl (h_ (c_ ?_)))))))))
  refine a_ (g_ rfl) rfl (e_ (b_ rfl (R_ ?_)))
  have hw2 : aQ_ 41 6 sv1 (List.length (((List.flatMap (dW_ p) (List.take i A)) ++ [(an_ x1 x1), (an_ x1 [42])]) ++ List.flatMap (eK_ x1) (List.take 0 p))) (List.flatMap Fc.cells (((List.flatMap (dW_ p) (List.take i A)) ++ [(an_ x1 x1), (an_ x1 [42])]) ++ List.flatMap (eK_ x1) (List.take 0 p))) Hr1 := by have q := hq1; simpa only [List.take_zero, List.flatMap_nil, List.append_nil] using q
  refine aL_ (ι := {y : Nat × Value × Hp // y.1 ≤ List.length p ∧ aQ_ 41 6 y.2.1 (List.length (((List.flatMap (dW_ p) (List.take i A)) ++ [(an_ x1 x1), (an_ x1 [42])]) ++ List.flatMap (eK_ x1) (List.take y.1 p))) (List.flatMap Fc.cells (((List.flatMap (dW_ p) (List.take i A)) ++ [(an_ x1 x1), (an_ x1 [42])]) ++ List.flatMap (eK_ x1) (List.take y.1 p))) y.2.2}) (fun y => [(0, .slice pad (List.length p) pcap), (1, .slice aad (List.length A) acap), (4, .slice none 0 0), (5, y.1.2.1), (6, .int .i64 (i : Int)), (7, .int .i64 (y.1.1 : Int))]) (fun y => (y.1.2.2)) (fun y => [az_ (some ⟨b2, 0, none⟩) (List.flatMap Fc.cells [(an_ x1 x1), (an_ x1 [42])]), az_ pad (List.flatMap Pc.cells p), az_ aad (List.flatMap aO_ A)]) (fun y => List.length p - y.1.1) ⟨((0 : Nat), sv1, Hr1), by simp, hw2⟩ ⟨rfl, rfl, rfl, rfl, rfl, rfl, trivial⟩ aD_ (fun _ _ h => h) ?_
  rintro ⟨⟨k, sv_Rfc, H_Rfc⟩, hi_k, hr_Rfc⟩
  dsimp only at hi_k hr_Rfc ⊢
  have hb2 := dG_ (g := eK_ x1) (n := 1) (List.take k p) (fun x _ => kf_ x1 x)
  rw [List.length_take] at hb2
  refine h_ (h_ (c_ (a_ (d_ rfl) rfl (a_ (d_ rfl) rfl (a_ (am_ A_ rfl) rfl (x_ (av_ rfl rfl) rfl fun r2 hr2 => ?_))))))
  refine e_ (b_ rfl ?_)
  cases r2
  ·
   replace hr2 := of_decide_eq_false hr2
   rw [show List.take k p = p from List.take_of_length_le (by omega)] at hr_Rfc
   refine v_ rfl (au_ rfl (b_ rfl (c_ (a_ (d_ rfl) rfl (a_ (M_ rfl rfl rfl (af_ (by omega) (by omega))) rfl (a_ (g_ rfl) rfl (e_ (w_ rfl ?_))))))))
   exact Z_ ⟨(i + 1, sv_Rfc, H_Rfc), hlx1, (by have q := hr_Rfc; rw [br_ hx1, show (dW_ p) x1 = [(an_ x1 x1), (an_ x1 [42])] ++ List.flatMap (eK_ x1) p from (by rfl)]; simpa only [List.append_assoc, List.append_nil] using q)⟩ (by dsimp only; omega) ⟨rfl, rfl, rfl, rfl, rfl, trivial⟩ aD_ (fun _ _ h => h.2)
  ·
   replace hr2 := of_decide_eq_true hr2
   have hlx2 : k < List.length p := by omega
   obtain ⟨x2, hx2⟩ : ∃ e0, p[k]? = some e0 := ⟨_, List.getElem?_eq_getElem hlx2⟩
   have hmx2 : x2 ∈ p := List.mem_of_getElem? hx2
   refine t_ rfl (z_ (b_ rfl (h_ (R_ (h_ (c_ (a_ (d_ rfl) rfl (a_ (d_ rfl) rfl (a_ (aa_ A_ K_ rfl rfl (fun v _ h => ay_ (n := 10) Pc.cells_len (by decide) (by exact h.2.1) hx2) (by omega) (by first | omega | (simp; done))) rfl ?_)))))))))
   refine a_ (bV_ k_ rfl rfl rfl L_) rfl (a_ (aN_ (ad := pad) P_ rfl (fun v _ h => by exact h.2.1) (ad_ Pc.cells_len hx2 0 _ rfl)) rfl (x_ (aM_ rfl rfl) rfl fun r3 hr3 => ?_))
   refine e_ (b_ rfl ?_)
   cases r3
   ·
    replace hr3 := ne_of_beq_false hr3
    refine v_ rfl (z_ (b_ rfl (c_ (a_ (d_ rfl) rfl (a_ (M_ rfl rfl rfl (af_ (by omega) (by omega))) rfl (a_ (g_ rfl) rfl (e_ (w_ rfl ?_))))))))
    exact Z_ ⟨(k + 1, sv_Rfc, H_Rfc), hlx2, (by have q := hr_Rfc; rw [br_ hx2, show (eK_ x1) x2 = [] from (by unfold eK_; rw [if_neg (by first | assumption | simpa using hr3 | simp [*])])]; simpa only [List.append_assoc, List.append_nil] using q)⟩ (by dsimp only; omega) ⟨rfl, rfl, rfl, rfl, rfl, rfl, trivial⟩ aD_ (fun _ _ h => h)
   ·
    replace hr3 := eq_of_beq hr3
    refine t_ rfl ?_
    refine aR_ ([]) (by kernel_rfl) ?_
    refine ah_ 4 [0, 1, 2, 3, 4, 5, 6, 7, 8, 9, 10, 11, 12, 13] (by kernel_rfl) (fun _ a b => ⟨bG_ a, b⟩) (n_ rfl (d_ rfl) rfl (n_ rfl (d_ rfl) rfl (n_ rfl (d_ rfl) rfl (n_ rfl (aa_ D_ j_ rfl rfl (fun v _ h => ay_ (n := 1) at_ (by decide) (by exact h.2.2.1) hx1) (by omega) (by first | omega | (simp; done))) rfl (n_ rfl (aN_ (ad := aad) q_ rfl (fun v _ h => by exact h.2.2.1) (ad_ at_ hx1 0 _ rfl)) rfl (n_ rfl (d_ rfl) rfl (n_ rfl (d_ rfl) rfl (n_ rfl (aa_ A_ K_ rfl rfl (fun v _ h => ay_ (n := 10) Pc.cells_len (by decide) (by exact h.2.1) hx2) (by omega) (by first | omega | (simp; done))) rfl (n_ rfl (bV_ k_ rfl rfl rfl j_) rfl ?_)))))))))
    refine n_ rfl (aN_ (ad := pad) q_ rfl (fun v _ h => by exact h.2.1) (ad_ Pc.cells_len hx2 4 _ rfl)) rfl (n_ rfl (d_ rfl) rfl (n_ rfl (d_ rfl) rfl (n_ rfl (aa_ D_ j_ rfl rfl (fun v _ h => ay_ (n := 1) at_ (by decide) (by exact h.2.2.1) hx1) (by omega) (by first | omega | (simp; done))) rfl (n_ rfl (aN_ (ad := aad) q_ rfl (fun v _ h => by exact h.2.2.1) (ad_ at_ hx1 0 _ rfl)) rfl (ag_ (X_ 14 rfl (by kernel_rfl) (W_ (eI_ x1 (Pc.r x2) x1) rfl I_ (fun _ _ _ => by exact trivial) rfl fun _ => ?_)))))))
    refine aj_ ht_ (e_ (w_ rfl (N_ (fun _ a b => ⟨bG_ a, b⟩) (X_ 15 rfl (by kernel_rfl) (aJ_ G_ B_ ak_ rfl rfl rfl rfl rfl rfl fun b3 => ?_)))))
    refine bz_ (List.flatMap Fc.cells [(ax_ x1 (Pc.r x2) x1)]) i_ rfl ?_
    refine e_ (w_ rfl (N_ (fun _ a b => ⟨bG_ a, b.2⟩) (X_ 16 rfl (by kernel_rfl) (aI_ (news := List.flatMap Fc.cells [(ax_ x1 (Pc.r x2) x1)]) ca_ hr_Rfc rfl rfl (fun q => by cases q) (by simp) aD_ (by rw [bp_ Fc.cells 6 Fc.cells_len]; rfl) (fun v _ h => by exact h.1) (fun u hu => aK_ Fc.cells_one hu) (by simp only [maxLen]; ((try simp only [List.length_append, List.length_cons, List.length_nil]); omega)) (by ((try simp only [List.length_append, List.length_cons, List.length_nil]); omega)) rfl fun sv3 Hr3 hr3 => ?_))))
    refine aj_ List.perm_append_comm ?_
    have hq3 : aQ_ 41 6 sv3 (List.length ((((List.flatMap (dW_ p) (List.take i A)) ++ [(an_ x1 x1), (an_ x1 [42])]) ++ List.flatMap (eK_ x1) (List.take k p)) ++ [(ax_ x1 (Pc.r x2) x1)])) (List.flatMap Fc.cells ((((List.flatMap (dW_ p) (List.take i A)) ++ [(an_ x1 x1), (an_ x1 [42])]) ++ List.flatMap (eK_ x1) (List.take k p)) ++ [(ax_ x1 (Pc.r x2) x1)])) Hr3 := by rw [List.length_append, List.flatMap_append]; exact hr3
    refine e_ (w_ rfl (N_ (fun _ a b => ⟨bG_ a, b.2⟩) (ah_ 0 [17] (by kernel_rfl) (fun _ a b => ⟨bG_ a, b.2⟩) (n_ rfl (g_ rfl) rfl (ag_ (ac_ (by kernel_rfl) (b_ rfl (c_ (a_ (d_ rfl) rfl ?_)))))))))
    refine a_ (M_ rfl rfl rfl (af_ (by omega) (by omega))) rfl (a_ (g_ rfl) rfl (e_ (w_ rfl ?_)))
    exact Z_ ⟨(k + 1, sv3, Hr3), hlx2, (by have q := hq3; rw [br_ hx2, show (eK_ x1) x2 = [(ax_ x1 (Pc.r x2) x1)] from (by unfold eK_; rw [if_pos (by first | assumption | simpa using hr3 | simp [*])])]; simpa only [List.append_assoc, List.append_nil] using q)⟩ (by dsimp only; omega) ⟨rfl, rfl, rfl, rfl, rfl, rfl, trivial⟩ aD_ (fun _ _ h => h.2)
end Go.Proofs.YtpdbbglpbngeiaaGreatDoor
