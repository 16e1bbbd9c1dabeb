/-
  Part of the proof of the law SaturateNextSpec over this seat: the small logic, the data, the contracts of functions (no condition).
-/
import Derived.Test.YtpdbbglpbngeiaaGreatDoorQSaturateNextSpec5
import Derived.Test.YtpdbbglpbngeiaaGreatDoorQSaturateNextSpec2
set_option linter.unusedVariables false
set_option linter.unusedSimpArgs false
set_option linter.unusedSectionVars false
namespace Go.Proofs.YtpdbbglpbngeiaaGreatDoor
open Go Go.Sx Go.Proofs
attribute [local irreducible] Code.wp wpList wpAnyH
open Go.Vs Go.Shelf Go.RowKit
theorem ln_ {v v' : Vw} (h : v.to [] v' []) (hs : ¬ v.sl) : ∃ q os, v'.w = Sort.grow (v.w.drewN q) os := by
  have hd : v.w.drawn ≤ v'.w.drawn := h.dr.resolve_left hs
  refine ⟨v'.w.drawn - v.w.drawn, v'.w.heap.extract v.w.heap.size v'.w.heap.size, ?_⟩
  have hh : v'.w.heap = v.w.heap ++ v'.w.heap.extract v.w.heap.size v'.w.heap.size := by
    apply Array.ext_getElem?
    intro i
    have hsz := h.size
    rw [Array.getElem?_append]
    split
    · rename_i hi; exact h.block i hi (by simp)
    · rename_i hi
      rw [Array.getElem?_extract]
      split
      · congr 1; omega
      · rw [Array.getElem?_eq_none (by omega)]
  have e1 := h.os; have e2 := h.tape; have e3 := h.output
  obtain ⟨im', ⟨hp, tp, dn, os', ou⟩, sl'⟩ := v'
  simp only at e1 e2 e3 hh hd
  simp only [Sort.grow, World.drewN, World.mk.injEq]
  exact ⟨hh, e2, by omega, e1, e3⟩
theorem qV_ (blk off size : Nat) (w : World) : CmpLays Tryz.prog 61 #[] Fc.cells 6 hY_ blk off size w := fun m os dk _ x y => by
  have h := (qb_ x y).run ⟨fun _ => False, sortWorldK Fc.cells 6 w blk off m dk os, False⟩ ⟨by simp, by simp, fun _ h => h.elim⟩ trivial
  refine h.mono ?_
  rintro e w' ⟨_, v', rfl, rfl, _, _, ht⟩
  obtain ⟨q, os', hw⟩ := ln_ ht (fun h => h)
  exact ⟨rfl, q, os', hw⟩
theorem ltF (x y : Fc) : ltOf hY_ x y = decide (x.lt y) := by unfold ltOf; rw [decide_eq_decide]; exact mm_ x y
theorem swoF : Sort.SWO (ltOf hY_) where
  irrefl x := by rw [ltF]; exact decide_eq_false (Fc.lt_irr x)
  trans x y z h1 h2 := by rw [ltF, decide_eq_true_eq] at *; exact Fc.lt_trans h1 h2
  ntrans x y z h1 h2 := by
    rw [ltF, decide_eq_false_iff_not] at *
    intro h
    rcases Fc.lt_tri x y with g | g | g
    · exact h1 g
    · subst g; exact h2 h
    · exact h2 (Fc.lt_trans g h)
theorem totF (x y : Fc) (h1 : ltOf hY_ x y = false) (h2 : ltOf hY_ y x = false) : x = y := by
  rw [ltF, decide_eq_false_iff_not] at h1 h2
  rcases Fc.lt_tri x y with g | g | g
  · exact absurd g h1
  · exact g
  · exact absurd g h2
theorem jB_ (xs : List Fc) : Sort.flatK Fc.cells 6 xs.toArray = (xs.flatMap Fc.cells).toArray := by
  apply Array.ext_getElem?
  intro t
  have e0 : (xs.flatMap Fc.cells).toArray[t]? = (xs.flatMap Fc.cells)[t]? := by simp
  rw [e0]
  by_cases ht : t < xs.length * 6
  · have hd : t / 6 < xs.length := by omega
    have := kT_ Fc.cells 6 Fc.cells_len xs (t / 6) (t % 6) xs[t / 6] (List.getElem?_eq_getElem hd) (Nat.mod_lt _ (by decide))
    rw [show t / 6 * 6 + t % 6 = t by omega] at this
    rw [this]
    simp only [Sort.flatK, Array.getElem?_map, List.size_toArray]
    rw [Array.getElem?_eq_getElem (by simpa using ht)]
    simp only [Array.getElem_range, Option.map_some]
    rw [getElem!_pos xs.toArray (t / 6) (by simpa using hd)]
    have hl : t % 6 < (Fc.cells xs[t / 6]).length := by rw [Fc.cells_len]; omega
    rw [List.getElem?_eq_getElem hl]
    simp only [List.getElem_toArray]
    rw [getElem!_pos (Fc.cells xs[t / 6]) (t % 6) hl]
  · rw [List.getElem?_eq_none (by rw [bt_ Fc.cells 6 Fc.cells_len]; omega), Array.getElem?_eq_none (by simp [Sort.flatK]; omega)]
theorem lr_ {P : Program} {Γ : List Fct} {f : FuncId} {args : Array Value} {r : Value} {g : Nat} {cur : Array Value} {T : TypeId} {d : Array Value} (hc : fV_ P f)
    (h : ∀ v : Vw, v.sat [(g, .cells cur T (0, 0))] → Calls P f args v.w fun e w' => e = .returned r ∧ ∃ n os, w' = Sort.grow (Sort.putRow id (Sort.ahead v.w n) g 0 d) os) :
    Tri P f args [(g, .cells cur T (0, 0))] Γ (fun _ : Unit => r) (fun _ => [(g, .cells (Sort.putCells id 0 d cur) T (0, 0))]) (fun _ => []) :=
  ⟨hc, fun v h1 _ => (h v h1).mono fun e w' ⟨he, n, os, hw⟩ => by
    have hg := (h1.own _ List.mem_cons_self)
    have hlt : g < v.w.heap.size := (Array.getElem?_eq_some_iff.1 hg.1).1
    have hb : ∀ b, b < v.w.heap.size → w'.heap[b]? = if b = g then some (.cells (Sort.putCells id 0 d cur) T (0, 0)) else v.w.heap[b]? := fun b hb => by
      rw [hw]
      simp only [Sort.grow, Sort.putRow, Sort.mapBlock, Sort.ahead]
      rw [Array.getElem?_append_left (by simpa using hb), Array.getElem?_modify]
      by_cases e : b = g
      · subst e
        simp only [if_true, hg.1, Option.map_some, Sort.onCells]
      · rw [if_neg (fun q => e q.symm), if_neg e]
    have hsz : v.w.heap.size ≤ w'.heap.size := by rw [hw]; simp [Sort.grow, Sort.putRow, Sort.mapBlock, Sort.ahead]
    refine ⟨(), ⟨v.im, w', v.sl⟩, he, rfl, ⟨fun p hp => ?_, by simp, fun b hbb => Nat.lt_of_lt_of_le (h1.lt b hbb) hsz⟩, trivial, ⟨by rw [hw]; rfl, by rw [hw]; rfl, by rw [hw]; rfl, hsz, fun b hbb hn => ?_, fun _ h => h, fun _ h => .inl h, fun b hm => .inl (by simpa using hm), rfl, .inr (by rw [hw]; exact Nat.le_add_right _ _)⟩⟩
    · simp only [List.mem_singleton] at hp
      subst hp
      exact ⟨by show w'.heap[g]? = _; rw [hb g hlt, if_pos rfl], hg.2⟩
    · have hn' : b ≠ g := by simpa using hn
      show w'.heap[b]? = _
      rw [hb b hbb, if_neg hn']⟩
theorem of_ {cur : Array Value} {d : List Value} (hs : d.length ≤ cur.size) : (Sort.putCells id 0 d.toArray cur).toList.take d.length = d := by
  apply List.ext_getElem?
  intro j
  rw [List.getElem?_take]
  split
  · rename_i hj
    simp only [Sort.putCells, Array.getElem?_toList, Array.getElem?_mapIdx]
    rw [Array.getElem?_eq_getElem (by omega)]
    simp only [Option.map_some, Nat.zero_le, true_and, Nat.zero_add, List.size_toArray, hj, if_true, Nat.sub_zero]
    rw [List.getElem?_eq_getElem hj, getElem!_pos d.toArray j (by simpa using hj)]
    rfl
  · rename_i hj
    rw [List.getElem?_eq_none (by omega)]
theorem og_ {cur d : Array Value} : (Sort.putCells id 0 d cur).size = cur.size := by simp [Sort.putCells]
theorem holdsV {g : Nat} {cur : Array Value} {T : TypeId} {xs : List Value} {v : Vw} (hs : v.sat [(g, .cells cur T (0, 0))]) (ht : cur.toList.take xs.length = xs) : Sort.Holds id v.w g 0 xs.toArray := by
  intro j hj
  have hb := (hs.own _ List.mem_cons_self).1
  simp only [List.size_toArray] at hj
  have hc : cur[j]? = some xs[j] := by
    have := congrArg (fun l => l[j]?) ht
    simp only [List.getElem?_take, hj, if_true, Array.getElem?_toList] at this
    rw [this, List.getElem?_eq_getElem hj]
  refine ⟨?_, ?_⟩
  · simp only [World.cell?, Nat.zero_add, hb, Option.isSome_none, Bool.false_eq_true, if_false]
    rw [hc, getElem!_pos xs.toArray j (by simpa using hj)]
    rfl
  · simp [World.frozen?, hb]
def fo_ (xs : List Fc) : List Fc := xs.mergeSort fun x y => !(ltOf hY_) y x
theorem fF_ (xs : List Fc) : (fo_ xs).length = xs.length := List.length_mergeSort _
theorem hI_ (xs : List Fc) (x : Fc) : x ∈ fo_ xs ↔ x ∈ xs := List.mem_mergeSort
theorem hH_ {xs : List Fc} (h : xs.Nodup) : Srt (fo_ xs) := by
  have h1 : (fo_ xs).Pairwise fun x y => (!(ltOf hY_) y x) = true := List.pairwise_mergeSort
    (fun a b c h1 h2 => by simp only [Bool.not_eq_true'] at *; exact swoF.ntrans c b a h2 h1)
    (fun a b => by
      simp only [Bool.or_eq_true, Bool.not_eq_true']
      rw [ltF, ltF, decide_eq_false_iff_not, decide_eq_false_iff_not]
      rcases Fc.lt_tri a b with g | g | g
      · exact .inl fun q => Fc.lt_irr a (Fc.lt_trans g q)
      · subst g; exact .inl (Fc.lt_irr a)
      · exact .inr fun q => Fc.lt_irr a (Fc.lt_trans q g)) xs
  have h2 : (fo_ xs).Nodup := (List.mergeSort_perm xs _).nodup_iff.2 h
  refine (h1.and h2).imp ?_
  rintro x y ⟨a, b⟩
  simp only [Bool.not_eq_true', ltF, decide_eq_false_iff_not] at a
  rcases Fc.lt_tri x y with g | g | g
  · exact g
  · exact absurd g b
  · exact absurd g a
theorem ni_ {sv : Value} {xs : List Fc} {Hr : Hp} (h : aQ_ 41 6 sv xs.length (xs.flatMap Fc.cells) Hr) (hl : xs.length ≤ 1000000000000) :
    Tri Tryz.prog 60 #[sv, .func (.func 61) #[] #[]] Hr [] (fun _ : {y : Hp // aQ_ 41 6 sv (fo_ xs).length ((fo_ xs).flatMap Fc.cells) y} => .tuple #[]) (fun y => y.1) (fun _ => []) := by
  rcases h.2 with ⟨rfl, h2, rfl⟩ | ⟨g, cap, cur, rfl, rfl, h3, h4, h5, h6⟩
  · obtain rfl : xs = [] := List.eq_nil_of_length_eq_zero h2
    have T := eo_ (P := Tryz.prog) (H := []) (Γ := []) (callable Tryz.func60 rfl rfl) (fun v _ _ => (AnyF.slices_SortFunc_none Tryz.sortFc none 0 (.func (.func 61) #[] #[]) v.w).mono (by rintro e w' ⟨rfl, rfl⟩; exact ⟨rfl, ⟨rfl, rfl, rfl, Nat.le_refl _, fun _ _ => rfl⟩, .inr (Nat.le_refl _)⟩))
    exact ⟨T.callable, fun v a b => (T.run v a b).mono (by rintro e w' ⟨x, v', e1, e2, e3, e4, e5⟩; exact ⟨⟨[], by simpa [fo_] using aQ_.nil _ _⟩, v', e1, e2, e3, e4, e5⟩)⟩
  · have hx : (xs.flatMap Fc.cells).length = xs.length * 6 := bt_ Fc.cells 6 Fc.cells_len xs
    have T := lr_ (P := Tryz.prog) (Γ := []) (r := .tuple #[]) (g := g) (cur := cur) (T := 41) (d := ((fo_ xs).flatMap Fc.cells).toArray) (f := 60) (args := #[.slice (some ⟨g, 0, none⟩) xs.length cap, .func (.func 61) #[] #[]]) (callable Tryz.func60 rfl rfl) (fun v hs => by
      have hh := AnyQ.slices_SortFunc_total Tryz.sortFc 6 V_ B_ Fc.cells Fc.cells_len (fun x u hu => List.all_eq_true.1 (Fc.cells_one x) u hu) hY_ swoF 61 #[] g 0 cap xs.toArray v.w (fun args w => (callable Tryz.func61 rfl rfl) args w) (qV_ g 0 _ v.w) (by unfold Sort.HoldsK; rw [jB_]; exact holdsV hs (by rw [hx]; exact h6)) (Array.getElem?_eq_some_iff.1 (hs.own _ List.mem_cons_self).1).1 (by simp; omega) totF
      refine hh.mono ?_
      rintro e w' ⟨rfl, n, os, rfl⟩
      refine ⟨rfl, n, os, ?_⟩
      unfold sortWorldK Sort.putRowK
      rw [show ((xs.toArray.toList.mergeSort fun x y => !(ltOf hY_) y x)) = fo_ xs from rfl, jB_])
    refine ⟨T.callable, fun v a b => (T.run v a b).mono ?_⟩
    rintro e w' ⟨x, v', e1, e2, e3, e4, e5⟩
    have hy : ((fo_ xs).flatMap Fc.cells).length = xs.length * 6 := by rw [bt_ Fc.cells 6 Fc.cells_len, fF_]
    refine ⟨⟨_, by rw [hy, fF_], .inr ⟨g, cap, _, by rw [fF_], rfl, by rw [fF_]; exact h3, h4, by rw [og_]; exact h5, ?_⟩⟩, v', e1, e2, e3, e4, e5⟩
    have := of_ (cur := cur) (d := (fo_ xs).flatMap Fc.cells) (by rw [hy, h5]; omega)
    rw [hy] at this
    rw [fF_]; exact this
end Go.Proofs.YtpdbbglpbngeiaaGreatDoor
namespace Go.Proofs.YtpdbbglpbngeiaaGreatDoor
open Go Go.Sx Go.Proofs
attribute [local irreducible] Code.wp wpList wpAnyH
open Go.Vs
section
variable {P : Program} {N : Nat} {v0 : Vw} {H0 : Hp} {fr : Fr} {H F : Hp} {Γ : List Fct} {K D : Type} [DecidableEq K]
theorem jz_ : ∀ (B : Hp) {v : Vw}, aT_ (B.map fun p => cM_ p.1 p.2) v → ∀ p ∈ B, v.im p.1 ∧ v.w.heap[p.1]? = some p.2
  | [], _, _, _, h => by simp at h
  | q :: B, v, h, p, hp => by
    rcases List.mem_cons.1 hp with rfl | hp
    · exact h.1
    · exact jz_ B h.2 p hp
theorem lR_ {k : Act → World → Prop} {kv : K → Value} {cells : D → List Value} {kt e : TypeId} {sz mb : Nat} {l : List (K × D)} {Hm : Hp} (hK : KeyT P kt kv) (hm : dt_ kv cells e sz l mb Hm) (hH : H.Perm (Hm ++ F))
    (h : ∀ adr, Ok N v0 H0 k fr F (mlF P kt kv cells mb l adr :: Γ)) : Ok N v0 H0 k fr H Γ := by
  obtain ⟨adr, ha⟩ := hm.lent hK
  refine lS_ Hm hH (fI_ (fun v _ hv => ?_) (h adr))
  rw [gj_] at hv
  refine ⟨ha v fun p hp => ?_, hv.2⟩
  have := hv.1
  exact jz_ Hm.reverse (by rw [List.map_reverse] at *; exact this) p (List.mem_reverse.2 hp)
theorem fg_ {tF : TypeId} {E : Emt P tF} {nw fm : List Fc} {Hs : Hp} {ty t kt et : TypeId} {x : Operand} (hS : E.St nw fm Hs) (hu : ∀ w, (underlying t).run P w = .ok (.map kt et) w) (hx : Fr.ev fr x = some (.map (some E.kb))) (hp : H.Perm (Hs ++ F)) :
    Yld P N fr H Γ (.call ⟨.builtin .len, #[x], #[t]⟩) ty (.int .i64 ((E.kof nw).length : Int)) := by
  obtain ⟨es, c, g1, g2⟩ := E.known hS
  exact iV_ g2 hu hx fun v h _ => jm_ hp g1 h
end
def ma_ (x : Ix) (n : Nat) : Prop := x.above.length ≤ n ∧ x.under.length ≤ n ∧ x.frm.length ≤ n ∧ x.into.length ≤ n ∧ x.ranges.length ≤ n ∧ x.firms.length ≤ n
theorem lZ_ : ma_ Ix.nil 0 := by simp [ma_, Ix.nil]
theorem gH_ {x : Ix} {n : Nat} (h : ma_ x n) (b : Bool) (f : Fc) : ma_ (x.add b f) (n + 1) := by
  obtain ⟨h1, h2, h3, h4, h5, h6⟩ := h
  unfold Ix.add ma_
  split
  · simp; omega
  · split
    · simp; omega
    · split
      · cases b <;> simp <;> omega
      · omega
theorem hQ_ {x : Ix} {n : Nat} (h : ma_ x n) (hn : n ≤ 1000000000) : (∀ k, (lat x.above k).length ≤ 1000000000 ∧ (lat x.under k).length ≤ 1000000000) ∧ (∀ k, (lat x.frm k).length ≤ 1000000000 ∧ (lat x.into k).length ≤ 1000000000 ∧ (lat x.ranges k).length ≤ 1000000000 ∧ (lat x.firms k).length ≤ 1000000000) := by
  obtain ⟨h1, h2, h3, h4, h5, h6⟩ := h
  refine ⟨fun k => ⟨?_, ?_⟩, fun k => ⟨?_, ?_, ?_, ?_⟩⟩
  · have := eZ_ x.above k; omega
  · have := eZ_ x.under k; omega
  · have := eZ_ x.frm k; omega
  · have := eZ_ x.into k; omega
  · have := eZ_ x.ranges k; omega
  · have := eZ_ x.firms k; omega
theorem nm_ (B : EngB) (E : Emt Tryz.prog 41) (A0 : EngA) (pm : List (Ky × Pc)) (x : Ix) (f : Fc) (nw fm : List Fc) (Hs : Hp) (hS : E.St nw fm Hs) (Ha Hu Ho Hi Hr Hm : Hp) (hI : IxO 9 41 B x ⟨Ha, Hu, Ho, Hi, Hr, Hm⟩) (hpl : ∀ k, (lat pm k).length ≤ 1000000000) (hxl : ∀ k, (lat x.above k).length ≤ 1000000000 ∧ (lat x.under k).length ≤ 1000000000) (hyl : ∀ k, (lat x.frm k).length ≤ 1000000000 ∧ (lat x.into k).length ≤ 1000000000 ∧ (lat x.ranges k).length ≤ 1000000000 ∧ (lat x.firms k).length ≤ 1000000000) (hf : f.kind = 3 → -1099511627776 ≤ f.lo ∧ f.lo ≤ f.hi ∧ f.hi ≤ 1099511627776) (hq : f.kind = 3 → ∀ y ∈ lat pm (Ky.mk 9 (Fc.r f) []), -1099511627776 ≤ y.lo ∧ y.lo ≤ y.hi ∧ y.hi ≤ 1099511627776) (hk : f.kind = 1) : ∀ (j : Nat) {fv : Value}, (rlV B.g 1)[j]? = some fv → ∃ n : Nat, fv = .func (.func n) #[zp_ B.g 0] #[] ∧ Tri Tryz.prog n #[zp_ B.g 0, f.val] ((Ha ++ (Hu ++ (Ho ++ (Hi ++ (Hr ++ Hm))))) ++ Hs) [gF B E, pF B pm A0, E.ef] (fun _ : {H' : Hp // E.St (rl E.stp E.kof pm x f j (nw, fm)).1 (rl E.stp E.kof pm x f j (nw, fm)).2 H'} => .tuple #[]) (fun y => (Ha ++ (Hu ++ (Ho ++ (Hi ++ (Hr ++ Hm))))) ++ y.1) (fun _ => [])
  | 0, _, h => ⟨100, (Option.some.inj h).symm, rl10_c B E A0 pm x f nw fm Hs hS Ha Hu Ho Hi Hr Hm hI hpl hxl hyl hf hq hk⟩
  | 1, _, h => ⟨101, (Option.some.inj h).symm, rl11_c B E A0 pm x f nw fm Hs hS Ha Hu Ho Hi Hr Hm hI hpl hxl hyl hf hq hk⟩
  | 2, _, h => ⟨102, (Option.some.inj h).symm, rl12_c B E A0 pm x f nw fm Hs hS Ha Hu Ho Hi Hr Hm hI hpl hxl hyl hf hq hk⟩
  | 3, _, h => ⟨103, (Option.some.inj h).symm, rl13_c B E A0 pm x f nw fm Hs hS Ha Hu Ho Hi Hr Hm hI hpl hxl hyl hf hq hk⟩
  | 4, _, h => ⟨104, (Option.some.inj h).symm, rl14_c B E A0 pm x f nw fm Hs hS Ha Hu Ho Hi Hr Hm hI hpl hxl hyl hf hq hk⟩
  | 5, _, h => ⟨105, (Option.some.inj h).symm, rl15_c B E A0 pm x f nw fm Hs hS Ha Hu Ho Hi Hr Hm hI hpl hxl hyl hf hq hk⟩
  | j + 6, _, h => by simp [rlV] at h
theorem nl_ (B : EngB) (E : Emt Tryz.prog 41) (A0 : EngA) (pm : List (Ky × Pc)) (x : Ix) (f : Fc) (nw fm : List Fc) (Hs : Hp) (hS : E.St nw fm Hs) (Ha Hu Ho Hi Hr Hm : Hp) (hI : IxO 9 41 B x ⟨Ha, Hu, Ho, Hi, Hr, Hm⟩) (hpl : ∀ k, (lat pm k).length ≤ 1000000000) (hxl : ∀ k, (lat x.above k).length ≤ 1000000000 ∧ (lat x.under k).length ≤ 1000000000) (hyl : ∀ k, (lat x.frm k).length ≤ 1000000000 ∧ (lat x.into k).length ≤ 1000000000 ∧ (lat x.ranges k).length ≤ 1000000000 ∧ (lat x.firms k).length ≤ 1000000000) (hf : f.kind = 3 → -1099511627776 ≤ f.lo ∧ f.lo ≤ f.hi ∧ f.hi ≤ 1099511627776) (hq : f.kind = 3 → ∀ y ∈ lat pm (Ky.mk 9 (Fc.r f) []), -1099511627776 ≤ y.lo ∧ y.lo ≤ y.hi ∧ y.hi ≤ 1099511627776) (hk : f.kind = 2) : ∀ (j : Nat) {fv : Value}, (rlV B.g 2)[j]? = some fv → ∃ n : Nat, fv = .func (.func n) #[zp_ B.g 0] #[] ∧ Tri Tryz.prog n #[zp_ B.g 0, f.val] ((Ha ++ (Hu ++ (Ho ++ (Hi ++ (Hr ++ Hm))))) ++ Hs) [gF B E, pF B pm A0, E.ef] (fun _ : {H' : Hp // E.St (rl E.stp E.kof pm x f j (nw, fm)).1 (rl E.stp E.kof pm x f j (nw, fm)).2 H'} => .tuple #[]) (fun y => (Ha ++ (Hu ++ (Ho ++ (Hi ++ (Hr ++ Hm))))) ++ y.1) (fun _ => [])
  | 0, _, h => ⟨106, (Option.some.inj h).symm, rl20_c B E A0 pm x f nw fm Hs hS Ha Hu Ho Hi Hr Hm hI hpl hxl hyl hf hq hk⟩
  | 1, _, h => ⟨107, (Option.some.inj h).symm, rl21_c B E A0 pm x f nw fm Hs hS Ha Hu Ho Hi Hr Hm hI hpl hxl hyl hf hq hk⟩
  | 2, _, h => ⟨108, (Option.some.inj h).symm, rl22_c B E A0 pm x f nw fm Hs hS Ha Hu Ho Hi Hr Hm hI hpl hxl hyl hf hq hk⟩
  | 3, _, h => ⟨109, (Option.some.inj h).symm, rl23_c B E A0 pm x f nw fm Hs hS Ha Hu Ho Hi Hr Hm hI hpl hxl hyl hf hq hk⟩
  | j + 4, _, h => by simp [rlV] at h
theorem nk_ (B : EngB) (E : Emt Tryz.prog 41) (A0 : EngA) (pm : List (Ky × Pc)) (x : Ix) (f : Fc) (nw fm : List Fc) (Hs : Hp) (hS : E.St nw fm Hs) (Ha Hu Ho Hi Hr Hm : Hp) (hI : IxO 9 41 B x ⟨Ha, Hu, Ho, Hi, Hr, Hm⟩) (hpl : ∀ k, (lat pm k).length ≤ 1000000000) (hxl : ∀ k, (lat x.above k).length ≤ 1000000000 ∧ (lat x.under k).length ≤ 1000000000) (hyl : ∀ k, (lat x.frm k).length ≤ 1000000000 ∧ (lat x.into k).length ≤ 1000000000 ∧ (lat x.ranges k).length ≤ 1000000000 ∧ (lat x.firms k).length ≤ 1000000000) (hf : f.kind = 3 → -1099511627776 ≤ f.lo ∧ f.lo ≤ f.hi ∧ f.hi ≤ 1099511627776) (hq : f.kind = 3 → ∀ y ∈ lat pm (Ky.mk 9 (Fc.r f) []), -1099511627776 ≤ y.lo ∧ y.lo ≤ y.hi ∧ y.hi ≤ 1099511627776) (hk : f.kind = 3) : ∀ (j : Nat) {fv : Value}, (rlV B.g 3)[j]? = some fv → ∃ n : Nat, fv = .func (.func n) #[zp_ B.g 0] #[] ∧ Tri Tryz.prog n #[zp_ B.g 0, f.val] ((Ha ++ (Hu ++ (Ho ++ (Hi ++ (Hr ++ Hm))))) ++ Hs) [gF B E, pF B pm A0, E.ef] (fun _ : {H' : Hp // E.St (rl E.stp E.kof pm x f j (nw, fm)).1 (rl E.stp E.kof pm x f j (nw, fm)).2 H'} => .tuple #[]) (fun y => (Ha ++ (Hu ++ (Ho ++ (Hi ++ (Hr ++ Hm))))) ++ y.1) (fun _ => [])
  | 0, _, h => ⟨110, (Option.some.inj h).symm, rl30_c B E A0 pm x f nw fm Hs hS Ha Hu Ho Hi Hr Hm hI hpl hxl hyl hf hq hk⟩
  | 1, _, h => ⟨111, (Option.some.inj h).symm, rl31_c B E A0 pm x f nw fm Hs hS Ha Hu Ho Hi Hr Hm hI hpl hxl hyl hf hq hk⟩
  | j + 2, _, h => by simp [rlV] at h
def fb_ (p : List Pc) (bu : Int) (c : Cl) (e : Int) : Prop :=
  if bW_ p ≠ 0 then c = Cl.no ∧ e = bW_ p
  else if bu < 0 ∨ 1073741824 < bu then c = Cl.no ∧ e = 1
  else (e = 0 ∧ c.ok ∧ c.atoms = atS p ∧ eL_ p (atS p) (min bu 65536).toNat (some c.facts)) ∨ (c = Cl.no ∧ e = (if bu < 65536 then 3 else 2) ∧ eL_ p (atS p) (min bu 65536).toNat none)
theorem qi_ {p : List Pc} {bu : Int} (h : bW_ p ≠ 0) : fb_ p bu Cl.no (bW_ p) := by unfold fb_; rw [if_pos h]; exact ⟨rfl, rfl⟩
theorem ms_ {p : List Pc} {bu : Int} (h : bW_ p = 0) (hb : bu < 0 ∨ 1073741824 < bu) : fb_ p bu Cl.no 1 := by unfold fb_; rw [if_neg (by simp [h]), if_pos hb]; exact ⟨rfl, rfl⟩
theorem rf_ {p : List Pc} {bu : Int} {m n : Nat} {c : Cl} {q fm : List Fc} {x : Ix} (hc : bW_ p = 0) (h1 : ¬ bu < 0) (h2 : ¬ 1073741824 < bu) (hm : min bu 65536 = (m : Int)) (hk : c.ok) (ha : c.atoms = atS p) (hL : LoopA (uniq [] p) (atS p) m n q fm x) (hn : q.length ≤ n) (hl : q.length ≤ m) (hf : c.facts = fo_ q) : fb_ p bu c 0 := by
  unfold fb_
  rw [if_neg (by simp [hc]), if_neg (by omega)]
  have e : n = q.length := Nat.le_antisymm hL.le hn
  subst e
  refine .inl ⟨rfl, hk, ha, ?_⟩
  rw [hm, hf]
  exact ⟨hH_ hL.nd, fun y => by rw [hI_, ← mM_ hL hl, lq_], by rw [fF_]; simpa using hl⟩
theorem en_ {p : List Pc} {bu : Int} {m : Nat} {e : Int} {M : List Fc} (hc : bW_ p = 0) (h1 : ¬ bu < 0) (h2 : ¬ 1073741824 < bu) (hm : min bu 65536 = (m : Int)) (he : e = if bu < 65536 then 3 else 2) (nd : M.Nodup) (hd : ∀ y ∈ M, Der (uniq [] p) (atS p) y) (hl : m < M.length) : fb_ p bu Cl.no e := by
  unfold fb_
  rw [if_neg (by simp [hc]), if_neg (by omega)]
  exact .inr ⟨rfl, he, M, nd, fun y hy => lq_.1 (hd y hy), by rw [hm]; simpa using hl⟩
end Go.Proofs.YtpdbbglpbngeiaaGreatDoor
namespace Go.Proofs.YtpdbbglpbngeiaaGreatDoor
open Go Go.Sx Go.Proofs
attribute [local irreducible] Code.wp wpList wpAnyH
open Go.Vs
set_option maxHeartbeats 4000000 in
theorem qh_ (p : List Pc) (pad : Option Addr) (pcap : Nat) (bu : Int) (hsm : ∀ x ∈ p, x.sm) (hp : p.length ≤ 100000000) : Tri Tryz.prog 18 #[.slice pad (List.length p) pcap, .int .i64 bu] [] [az_ pad (List.flatMap Pc.cells p), hk_] (fun y : {y : Cl × Int // fb_ p bu y.1 y.2} => .tuple #[y.1.1.val, .int .i64 y.1.2]) (fun _ => []) (fun y => y.1.1.row) := by
 refine T_ Tryz.func18 rfl rfl Tryz.ntmps18 rfl fun v0 => ?_
 refine h_ (c_ (ay_ lj_ rfl fun b1 => ?_))
 refine a_ (g_ rfl) rfl (e_ (b_ rfl (nZ_ (h_ (h_ (c_ (a_ (f_ rfl) rfl (X_ (nK_ p pad pcap (by omega) hsm) rfl J_ (fun v _ h => by exact ⟨h.1, h.2.1, trivial⟩) rfl fun _ => ?_))))))))
 refine a_ (g_ rfl) rfl (e_ (b_ rfl (h_ (c_ (a_ (f_ rfl) rfl (y_ (cE_ rfl rfl) rfl fun r1 hr1 => ?_))))))
 refine e_ (b_ rfl ?_)
 cases r1
 ·
  replace hr1 := bo_ hr1
  have hchk := hr1
  refine v_ rfl (F_ (b_ rfl (h_ (h_ (c_ (a_ (f_ rfl) rfl (y_ (ax_ rfl rfl) rfl fun r2 hr2 => ?_)))))))
  refine a_ (f_ rfl) rfl ?_
  cases r2
  ·
   replace hr2 := of_decide_eq_false hr2
   have hb0 := hr2
   refine r_ rfl rfl (a_ (f_ rfl) rfl (r_ rfl rfl (y_ (cp_ rfl rfl) rfl fun r3 hr3 => ?_)))
   refine a_ (A_ rfl rfl) rfl (e_ (b_ rfl ?_))
   cases r3
   ·
    replace hr3 := of_decide_eq_false hr3
    have hb1 := hr3
    refine v_ rfl (F_ (b_ rfl (h_ ?_)))
    obtain ⟨m, hm0'⟩ : ∃ m : Nat, min bu 65536 = (m : Int) := ⟨(min bu 65536).toNat, by omega⟩
    have hm : m ≤ 65536 := by omega
    have hvk := lo_ (iv_ hchk)
    have hpl : ∀ k, (lat (aS_ (uniq [] p)) k).length ≤ 1000000000 := fun k => by have h1 := eZ_ (aS_ (uniq [] p)) k; have h2 := hM_ (uniq [] p); have h3 := fD_ p []; simp only [List.length_nil] at h3; omega
    refine c_ (a_ (f_ rfl) rfl (X_ (iB_ p pad pcap (by omega)) rfl J_ (fun v _ h => by exact ⟨h.1, trivial⟩) rfl fun ⟨⟨g, pb, kb, ab, ub, ob, ib, rb, sb, fb, lv, hm0, hl0⟩, hy⟩ => ?_))
    dsimp only
    dsimp only [NewE.own, NewE.ok] at hy ⊢
    obtain ⟨hym, hyl⟩ := hy
    simp only [List.cons_append, List.append_assoc]
    refine bw_ hyl (d_ (d_ (d_ (d_ (d_ (d_ (d_ (d_ (d_ (q_ x_)))))))))) fun lad lcap hlad hclad hmlad hzlad => ?_
    subst hlad
    refine ay_ Tryz.zeroValue85 rfl fun b2 => ?_
    refine al_ (bb_ i_ (bb_ i_ (bb_ i_ (bb_ i_ (bb_ i_ (bb_ i_ (bb_ i_ (bb_ i_ (bb_ i_ (bb_ i_ (cj_ aX_))))))))))) (af_ 0 Tryz.sizeOf85 rfl rfl rfl rfl rfl rfl (e_ (b_ rfl (h_ (c_ (a_ (f_ rfl) rfl (a_ (bm_ (gt_ rfl rfl) (congrArg (Value.int .i64) hm0')) rfl (ay_ Tryz.zeroValue3 rfl fun b3 => ?_))))))))
    refine af_ 0 I_ rfl rfl rfl rfl rfl rfl (e_ (b_ rfl (h_ (c_ (ay_ lk_ rfl fun b4 => ?_)))))
    refine e_ (b_ rfl (h_ (c_ (a_ (t_ 2 bC_ rfl rfl rfl) rfl (a_ (cQ_ rfl rfl) rfl (a_ (aq_ rfl) rfl (a_ (l_ K_ rfl rfl rfl aU_) rfl (af_ 3 aU_ rfl rfl rfl rfl rfl rfl (e_ ?_)))))))))
    refine b_ rfl (h_ (eX_ (cM_ b2 (.cells #[zp_ g 0] 85 (0, 0))) (cj_ (d_ (d_ i_))) (fun _ h1 h2 _ => ⟨h1, h2⟩) ?_))
    refine eX_ (cM_ b3 (.cells #[.int .i64 (m : Int)] 3 (0, 0))) (cj_ (d_ i_)) (fun _ h1 h2 _ => ⟨h1, h2⟩) ?_
    refine eX_ (cM_ g (.cells #[.map (some pb), .slice lad (List.length (an_ (uniq [] p))) lcap, .map (some kb), .func (.func 55) #[] #[zp_ b2 0, zp_ b3 0, zp_ b4 0], .map (some ab), .map (some ub), .map (some ob), .map (some ib), .map (some rb), .map (some sb), .map (some fb)] 94 (0, 0))) (cj_ (d_ i_)) (fun _ h1 h2 _ => ⟨h1, h2⟩) ?_
    refine lR_ fM_ hym (d_ (d_ (d_ (d_ (d_ (d_ (d_ (d_ (d_ Q_))))))))) fun adr => ?_
    refine c_ (a_ (f_ rfl) rfl (X_ (rr_ p pad pcap (by omega)) rfl J_ (fun v _ h => by exact ⟨h.2.2.2.2.2.1, trivial⟩) rfl fun ⟨⟨aad, acap⟩, hac, ham, haz⟩ => ?_))
    dsimp only
    refine a_ (g_ rfl) rfl (e_ (b_ rfl (h_ (c_ (a_ (ai_ bC_ rfl (fun v _ h => by exact h.2.2.2.2.1) rfl) rfl (a_ (f_ rfl) rfl (X_ (nM_ (EngB.mk g pb ab ub ob ib rb sb lad lcap (an_ (uniq [] p))) (EA m hm (EngB.mk g pb ab ub ob ib rb sb lad lcap (an_ (uniq [] p))) b2 b3 b4 kb fb) [] [] [(b4, .cells #[.slice none 0 0] 26 (0, 0)), (kb, .map #[] 0), (fb, .map #[] 0)] ⟨.slice none 0 0, #[], 0, #[], 0, [], [], rfl, aQ_.nil _ _, SetE.nil, SetE.nil, by simp⟩ (atS p) aad acap (by have := hj_ p; omega) (by have := gG_ (uniq [] p); have h3 := fD_ p []; simp only [List.length_nil] at h3; show (an_ (uniq [] p)).length ≤ _; omega)) rfl (o_ i_ (o_ i_ (d_ (d_ (d_ (d_ (d_ (d_ i_)))))))) (fun v _ h => by exact ⟨h.2.2.1, h.2.2.2.2.2.1, h.1, ⟨h.2.2.2.2.1, h.2.2.2.1, h.2.2.1⟩, trivial⟩) rfl fun ⟨Hs1, hS1⟩ => ?_)))))))
    dsimp only
    refine e_ (b_ rfl (al_ (bb_ (q_ i_) (bb_ (q_ i_) (bb_ (q_ i_) (bb_ (q_ i_) (bb_ (q_ i_) (bb_ (q_ i_) (cj_ aX_))))))) (h_ (c_ (a_ (ai_ bC_ rfl (fun v _ h => by exact h.2.2.2.2.1) rfl) rfl (X_ (nj_ g) rfl J_ (fun _ _ _ => by exact trivial) rfl fun ⟨r1, r2, r3⟩ => ?_))))))
    dsimp only
    refine ay_ Tryz.zeroValue98 rfl fun b5 => ?_
    refine af_ 0 Tryz.sizeOf98 rfl rfl rfl rfl rfl rfl (e_ (b_ rfl (h_ (oa_ (b_ rfl (h_ (h_ (c_ (a_ (g_ rfl) rfl ?_)))))))))
    refine e_ (b_ rfl (N_ ?_))
    refine aB_ (ι := {y : Nat × List Fc × List Fc × Ix × Hp × Hp × Hp × Hp × Hp × Hp × Hp // LoopA (uniq [] p) (atS p) m y.1 y.2.1 y.2.2.1 y.2.2.2.1 ∧ ((EA m hm (EngB.mk g pb ab ub ob ib rb sb lad lcap (an_ (uniq [] p))) b2 b3 b4 kb fb)).St y.2.1 y.2.2.1 y.2.2.2.2.2.2.2.2.2.2 ∧ IxO 9 41 (EngB.mk g pb ab ub ob ib rb sb lad lcap (an_ (uniq [] p))) y.2.2.2.1 ⟨y.2.2.2.2.1, y.2.2.2.2.2.1, y.2.2.2.2.2.2.1, y.2.2.2.2.2.2.2.1, y.2.2.2.2.2.2.2.2.1, y.2.2.2.2.2.2.2.2.2.1⟩ ∧ ma_ y.2.2.2.1 y.1}) (fun y => [(0, .slice pad (List.length p) pcap), (1, .int .i64 bu), (4, zp_ b1 0), (7, zp_ b2 0), (8, zp_ b3 0), (9, zp_ b4 0), (10, .slice aad (List.length (atS p)) acap), (11, zp_ b5 0), (12, .int .i64 (y.1.1 : Int))]) (fun y => ((b1, .cells #[.slice none 0 0, .slice none 0 0] 28 (0, 0)) :: ((b5, .cells #[.slice none 0 0, .slice (some ⟨r1, 0, none⟩) 6 6, .slice (some ⟨r2, 0, none⟩) 4 4, .slice (some ⟨r3, 0, none⟩) 2 2] 98 (0, 0)) :: (y.1.2.2.2.2.1 ++ (y.1.2.2.2.2.2.1 ++ (y.1.2.2.2.2.2.2.1 ++ (y.1.2.2.2.2.2.2.2.1 ++ (y.1.2.2.2.2.2.2.2.2.1 ++ (y.1.2.2.2.2.2.2.2.2.2.1 ++ y.1.2.2.2.2.2.2.2.2.2.2))))))))) (fun y => [az_ (some ⟨r1, 0, none⟩) (List.flatMap fvC (rlV g 1)), az_ (some ⟨r2, 0, none⟩) (List.flatMap fvC (rlV g 2)), az_ (some ⟨r3, 0, none⟩) (List.flatMap fvC (rlV g 3)), az_ aad (List.flatMap aH_ (atS p)), mlF Tryz.prog 171 Ky.val Pc.cells pb (aS_ (uniq [] p)) adr, cM_ g (.cells #[.map (some pb), .slice lad (List.length (an_ (uniq [] p))) lcap, .map (some kb), .func (.func 55) #[] #[zp_ b2 0, zp_ b3 0, zp_ b4 0], .map (some ab), .map (some ub), .map (some ob), .map (some ib), .map (some rb), .map (some sb), .map (some fb)] 94 (0, 0)), cM_ b3 (.cells #[.int .i64 (m : Int)] 3 (0, 0)), cM_ b2 (.cells #[zp_ g 0] 85 (0, 0)), az_ lad (List.flatMap aH_ (an_ (uniq [] p))), az_ pad (List.flatMap Pc.cells p), hk_]) (fun y => m + 1 - y.1.1) ⟨((0 : Nat), (emits (bF_ m) (dV_ (an_ (uniq [] p)) (atS p)) []), ([] : List Fc), Ix.nil, [(ab, .map #[] 0)], [(ub, .map #[] 0)], [(ob, .map #[] 0)], [(ib, .map #[] 0)], [(rb, .map #[] 0)], [(sb, .map #[] 0)], Hs1), lX_ hvk rfl, by exact hS1, ⟨dt_.nil _ _, dt_.nil _ _, dt_.nil _ _, dt_.nil _ _, dt_.nil _ _, dt_.nil _ _⟩, lZ_⟩ ⟨rfl, rfl, rfl, rfl, rfl, rfl, rfl, rfl, rfl, trivial⟩ (o_ (d_ (d_ (d_ (d_ (d_ (d_ (d_ i_))))))) (o_ i_ (o_ i_ (o_ i_ (o_ i_ (o_ i_ (o_ i_ (o_ i_ aC_)))))))) (fun _ _ h => h) ?_
    rintro ⟨⟨n, q, fm, x, Ha, Hu, Ho, Hi, Hr, Hm, Hs⟩, hL, hS, hI, hz⟩
    dsimp only at hL hS hI hz ⊢
    obtain ⟨sv1, es1, ce1, ef1, cf1, qf1, Hq1, hHs1, hrQ1, hEk1, hEf1, hqf1⟩ := hS
    subst hHs1
    have hqm := hL.len
    have hnq := hL.le
    obtain ⟨hxl, hyl⟩ := hQ_ hz (by omega)
    refine h_ (al_ (bb_ i_ (bb_ i_ (bb_ (q_ (q_ (q_ (q_ (q_ (q_ i_)))))) (cj_ (q_ (q_ (q_ (q_ (q_ (q_ i_)))))))))) (h_ (c_ (a_ (f_ rfl) rfl (a_ (t_ 2 bx_ rfl rfl rfl) rfl (a_ (mu_ hrQ1 E_ rfl) rfl (y_ (ax_ rfl rfl) rfl fun r4 hr4 => ?_)))))))
    refine e_ (b_ rfl ?_)
    cases r4
    ·
     replace hr4 := of_decide_eq_false hr4
     refine v_ rfl (as_ rfl (b_ rfl (h_ (h_ ?_))))
     refine aE_ (by kernel_rfl) ?_
     refine Z_ 0 [0, 1, 2, 3, 4, 5, 6] (by kernel_rfl) (fun _ a b => ⟨a, b⟩) (n_ rfl (ai_ bC_ rfl (fun v _ h => by exact h.2.2.2.2.2.2.2.1) rfl) rfl (n_ rfl (aq_ rfl) rfl (n_ rfl (l_ K_ rfl rfl rfl bB_) rfl (n_ rfl (ai_ bH_ rfl (fun v _ h => by exact h.2.2.2.2.2.1) rfl) rfl (n_ rfl (bm_ (fg_ (E := (EA m hm (EngB.mk g pb ab ub ob ib rb sb lad lcap (an_ (uniq [] p))) b2 b3 b4 kb fb)) (nw := q) (Hs := ((b4, .cells #[sv1] 26 (0, 0)) :: (kb, .map es1 ce1) :: ([(fb, .map ef1 cf1)] ++ Hq1))) ⟨sv1, es1, ce1, ef1, cf1, qf1, Hq1, rfl, hrQ1, hEk1, hEf1, hqf1⟩ aV_ rfl (o_ (d_ (d_ i_)) (o_ (d_ (d_ i_)) (C_ (d_ (d_ (q_ (q_ (q_ (q_ (q_ (q_ x_)))))))) (d_ (d_ (q_ (q_ (q_ (q_ (q_ aX_))))))))))) (show _ = Value.int .i64 (List.length q : Int) from rfl)) rfl (n_ rfl (ai_ L_ rfl (fun v _ h => by exact h.2.2.2.2.2.2.1) rfl) rfl ?_))))))
     refine bX_ rfl (cp_ rfl rfl) rfl fun r5 hr5 => ?_
     refine Y_ (ab_ (by kernel_rfl) (b_ rfl ?_))
     cases r5
     ·
      replace hr5 := of_decide_eq_false hr5
      refine v_ rfl (F_ (b_ rfl (h_ (c_ (a_ (t_ 2 bx_ rfl rfl rfl) rfl (X_ (ni_ hrQ1 (by omega)) rfl (d_ (d_ (d_ (d_ (q_ (q_ (q_ (q_ (q_ (q_ aX_)))))))))) (fun _ _ _ => by exact trivial) rfl fun ⟨Hq9, hq9⟩ => ?_))))))
      dsimp only
      refine e_ (b_ rfl (al_ (bb_ (q_ i_) (bb_ (q_ i_) (bb_ (q_ i_) (cj_ (q_ i_))))) (h_ (bw_ hq9 (d_ (d_ (d_ (d_ x_)))) fun fad fcap hfad hcfad hmfad hzfad => ?_))))
      subst hfad
      refine c_ (a_ (f_ rfl) rfl (a_ (t_ 2 bx_ rfl rfl rfl) rfl (a_ (aL_ eM_ rfl rfl) rfl (af_ 0 aI_ rfl rfl rfl rfl rfl rfl (a_ (g_ rfl) rfl (e_ (b_ rfl (H_ ?_))))))))
      exact gb_ ⟨((Cl.mk (atS p) aad acap (fo_ q) fad fcap), 0), rf_ hchk hb0 hb1 hm0' ⟨hac, ham, haz, hcfad, hmfad, hzfad⟩ rfl hL (by omega) (by omega) rfl⟩ (fun aa v h1 h2 => eP_ (us := Cl.cells (Cl.mk (atS p) aad acap (fo_ q) fad fcap)) 0 cZ_ bI_ aI_ rfl rfl rfl rfl aa v h1 h2) J_ (fun v _ h => by exact ⟨h.2.2.2.2.1, h.1, trivial⟩)
     ·
      replace hr5 := of_decide_eq_true hr5
      refine u_ rfl (h_ (h_ (c_ (a_ (f_ rfl) rfl (y_ (ax_ rfl rfl) rfl fun r6 hr6 => ?_)))))
      refine e_ (b_ rfl ?_)
      cases r6
      ·
       replace hr6 := of_decide_eq_false hr6
       refine v_ rfl (F_ (b_ rfl (h_ (c_ (a_ (aL_ eM_ rfl rfl) rfl (af_ 0 aI_ rfl rfl rfl rfl rfl rfl (a_ (g_ rfl) rfl (e_ (b_ rfl ?_)))))))))
       refine H_ ?_
       exact gb_ ⟨((Cl.mk [] none 0 [] none 0), 2), en_ hchk hb0 hb1 hm0' (by rw [if_neg (by assumption)]) hL.nd hL.der (by omega)⟩ (fun aa v h1 h2 => eP_ (us := Cl.cells (Cl.mk [] none 0 [] none 0)) 0 cZ_ bI_ aI_ rfl rfl rfl rfl aa v h1 h2) J_ (fun v _ h => by exact ⟨.inl rfl, .inl rfl, trivial⟩)
      ·
       replace hr6 := of_decide_eq_true hr6
       refine u_ rfl (h_ (c_ (a_ (aL_ eM_ rfl rfl) rfl (af_ 0 aI_ rfl rfl rfl rfl rfl rfl (a_ (g_ rfl) rfl (e_ (b_ rfl (H_ ?_))))))))
       exact gb_ ⟨((Cl.mk [] none 0 [] none 0), 3), en_ hchk hb0 hb1 hm0' (by rw [if_pos (by assumption)]) hL.nd hL.der (by omega)⟩ (fun aa v h1 h2 => eP_ (us := Cl.cells (Cl.mk [] none 0 [] none 0)) 0 cZ_ bI_ aI_ rfl rfl rfl rfl aa v h1 h2) J_ (fun v _ h => by exact ⟨.inl rfl, .inl rfl, trivial⟩)
    ·
     replace hr4 := of_decide_eq_true hr4
     have hlf : n < List.length q := by omega
     obtain ⟨f, hf⟩ : ∃ e0, q[n]? = some e0 := ⟨_, List.getElem?_eq_getElem hlf⟩
     have hmf : f ∈ q := List.mem_of_getElem? hf
     have hfd := hL.der f hmf
     have hform := hfd.form hvk
     obtain ⟨hxl1, hyl1⟩ := hQ_ (gH_ hz (decide (f ∈ fm)) f) (by omega)
     refine u_ rfl (F_ (b_ rfl (h_ (N_ (h_ (c_ (a_ (t_ 2 bx_ rfl rfl rfl) rfl (a_ (f_ rfl) rfl (a_ (nQ_ hrQ1 E_ B_ rfl rfl (by omega) (by omega)) rfl ?_)))))))))
     refine a_ (nP_ hrQ1 (d_ (d_ (d_ (d_ (q_ (q_ (q_ (q_ (q_ (q_ aX_)))))))))) V_ B_ rfl (Fc.cells_len _) (by decide) (ag_ Fc.cells_len hf)) rfl (ay_ ah_ rfl fun b6 => ?_)
     refine af_ 0 B_ rfl rfl rfl rfl rfl rfl (e_ (b_ rfl (h_ (c_ (a_ (ai_ bC_ rfl (fun v _ h => by exact h.2.2.2.2.2.2.2.1) rfl) rfl (a_ (ae_ 0 V_ B_ rfl rfl rfl) rfl (X_ (nD_ (EngB.mk g pb ab ub ob ib rb sb lad lcap (an_ (uniq [] p))) (EA m hm (EngB.mk g pb ab ub ob ib rb sb lad lcap (an_ (uniq [] p))) b2 b3 b4 kb fb) x f q fm ((b4, .cells #[sv1] 26 (0, 0)) :: (kb, .map es1 ce1) :: ([(fb, .map ef1 cf1)] ++ Hq1)) ⟨sv1, es1, ce1, ef1, cf1, qf1, Hq1, rfl, hrQ1, hEk1, hEf1, hqf1⟩ Ha Hu Ho Hi Hr Hm hI hxl hyl) rfl (C_ (d_ (d_ (d_ (d_ (d_ x_))))) (C_ (d_ (d_ (d_ (d_ (d_ x_))))) (C_ (d_ (d_ (d_ (d_ (d_ x_))))) (C_ (d_ (d_ (d_ (d_ (d_ x_))))) (C_ (d_ (d_ (d_ (d_ (d_ x_))))) (C_ (d_ (d_ (d_ (d_ (d_ x_))))) (o_ (d_ (d_ (d_ i_))) (o_ (d_ (d_ (d_ i_))) (C_ (d_ (d_ (d_ x_))) (d_ (d_ Q_))))))))))) (fun v _ h => by exact ⟨h.2.2.2.2.2.1, trivial⟩) rfl fun ⟨⟨Ha1, Hu1, Ho1, Hi1, Hr1, Hm1⟩, hI1⟩ => ?_)))))))
     dsimp only
     refine al_ qA_ (e_ (b_ rfl (al_ (bb_ (q_ (q_ (q_ (q_ (q_ (q_ i_)))))) (bb_ (q_ (q_ (q_ (q_ (q_ (q_ i_)))))) (bb_ (q_ (q_ (q_ (q_ (q_ (q_ (q_ (q_ i_)))))))) (bb_ (q_ (q_ (q_ (q_ (q_ (q_ (q_ (q_ i_)))))))) (cj_ (q_ (q_ (q_ (q_ (q_ (q_ (q_ aX_)))))))))))) (h_ (c_ (a_ (l_ k_ rfl rfl rfl I_) rfl (a_ (t_ 2 L_ rfl rfl rfl) rfl ?_)))))))
     rcases fd_ hform with hk | hk | hk
     ·
      refine a_ (bm_ (eh_ dY_ hB_ rfl rfl (by omega) (by omega)) (show _ = zp_ b5 1 from by rw [hk]; rfl)) rfl (a_ (t_ 4 mQ_ rfl rfl rfl) rfl (a_ (ar_ bv_ rfl) rfl (a_ (f_ rfl) rfl (e_ (b_ rfl (N_ (eE_ (H' := ((b1, .cells #[.slice none 0 0, .slice none 0 0] 28 (0, 0)) :: ((b5, .cells #[.slice none 0 0, .slice (some ⟨r1, 0, none⟩) 6 6, .slice (some ⟨r2, 0, none⟩) 4 4, .slice (some ⟨r3, 0, none⟩) 2 2] 98 (0, 0)) :: ((b6, .cells (Fc.cells f).toArray 41 (0, 0)) :: (Ha1 ++ (Hu1 ++ (Ho1 ++ (Hi1 ++ (Hr1 ++ (Hm1 ++ ((b4, .cells #[sv1] 26 (0, 0)) :: (kb, .map es1 ce1) :: ([(fb, .map ef1 cf1)] ++ Hq1)))))))))))) (o_ (d_ (d_ (d_ i_))) (o_ (d_ (d_ (d_ i_))) (o_ (d_ (d_ i_)) (C_ (d_ (d_ x_)) (C_ (d_ (d_ x_)) (C_ (d_ (d_ x_)) (C_ (d_ (d_ x_)) (C_ (d_ (d_ x_)) (C_ (d_ (d_ x_)) (o_ i_ (o_ i_ (C_ x_ aC_)))))))))))) (fun v _ h => h) ?_)))))))
      refine aB_ (ι := {y : Nat × Hp // y.1 ≤ 6 ∧ ((EA m hm (EngB.mk g pb ab ub ob ib rb sb lad lcap (an_ (uniq [] p))) b2 b3 b4 kb fb)).St (rls (bF_ m) idk (aS_ (uniq [] p)) (Ix.add x (decide (f ∈ fm)) f) f y.1 (q, fm)).1 (rls (bF_ m) idk (aS_ (uniq [] p)) (Ix.add x (decide (f ∈ fm)) f) f y.1 (q, fm)).2 y.2 ∧ (y.1 = 0 ∨ ((rls (bF_ m) idk (aS_ (uniq [] p)) (Ix.add x (decide (f ∈ fm)) f) f y.1 (q, fm)).1).length ≤ m)}) (fun y => [(0, .slice pad (List.length p) pcap), (1, .int .i64 bu), (4, zp_ b1 0), (7, zp_ b2 0), (8, zp_ b3 0), (9, zp_ b4 0), (10, .slice aad (List.length (atS p)) acap), (11, zp_ b5 0), (12, .int .i64 (n : Int)), (13, zp_ b6 0), (60, .slice (some ⟨r1, 0, none⟩) 6 6), (61, .int .i64 6), (62, .int .i64 (y.1.1 : Int))]) (fun y => ((b1, .cells #[.slice none 0 0, .slice none 0 0] 28 (0, 0)) :: ((b5, .cells #[.slice none 0 0, .slice (some ⟨r1, 0, none⟩) 6 6, .slice (some ⟨r2, 0, none⟩) 4 4, .slice (some ⟨r3, 0, none⟩) 2 2] 98 (0, 0)) :: ((b6, .cells (Fc.cells f).toArray 41 (0, 0)) :: (Ha1 ++ (Hu1 ++ (Ho1 ++ (Hi1 ++ (Hr1 ++ (Hm1 ++ y.1.2)))))))))) (fun y => [az_ (some ⟨r1, 0, none⟩) (List.flatMap fvC (rlV g 1)), az_ (some ⟨r2, 0, none⟩) (List.flatMap fvC (rlV g 2)), az_ (some ⟨r3, 0, none⟩) (List.flatMap fvC (rlV g 3)), az_ aad (List.flatMap aH_ (atS p)), mlF Tryz.prog 171 Ky.val Pc.cells pb (aS_ (uniq [] p)) adr, cM_ g (.cells #[.map (some pb), .slice lad (List.length (an_ (uniq [] p))) lcap, .map (some kb), .func (.func 55) #[] #[zp_ b2 0, zp_ b3 0, zp_ b4 0], .map (some ab), .map (some ub), .map (some ob), .map (some ib), .map (some rb), .map (some sb), .map (some fb)] 94 (0, 0)), cM_ b3 (.cells #[.int .i64 (m : Int)] 3 (0, 0)), cM_ b2 (.cells #[zp_ g 0] 85 (0, 0)), az_ lad (List.flatMap aH_ (an_ (uniq [] p))), az_ pad (List.flatMap Pc.cells p), hk_]) (fun y => 6 - y.1.1) ⟨((0 : Nat), ((b4, .cells #[sv1] 26 (0, 0)) :: (kb, .map es1 ce1) :: ([(fb, .map ef1 cf1)] ++ Hq1))), by omega, by exact ⟨sv1, es1, ce1, ef1, cf1, qf1, Hq1, rfl, hrQ1, hEk1, hEf1, hqf1⟩, .inl rfl⟩ ⟨rfl, rfl, rfl, rfl, rfl, rfl, rfl, rfl, rfl, rfl, rfl, rfl, rfl, trivial⟩ (o_ i_ (o_ i_ (o_ i_ (C_ x_ (C_ x_ (C_ x_ (C_ x_ (C_ x_ (C_ x_ aC_))))))))) (fun _ _ h => h) ?_
      rintro ⟨⟨j, Hs⟩, hj, hS2, hjm⟩
      dsimp only at hj hS2 hjm ⊢
      refine h_ (c_ (y_ (ax_ rfl rfl) rfl fun r7 hr7 => ?_))
      refine e_ (b_ rfl (h_ ?_))
      cases r7
      ·
       replace hr7 := of_decide_eq_false hr7
       have ej : j = 6 := by omega
       have hjl : ((rls (bF_ m) idk (aS_ (uniq [] p)) (Ix.add x (decide (f ∈ fm)) f) f j (q, fm)).1).length ≤ m := hjm.resolve_left (by omega)
       rw [ej] at hjl hS2
       refine v_ rfl (as_ rfl (b_ rfl (c_ (a_ (f_ rfl) rfl (a_ (M_ rfl rfl rfl (aj_ (by omega) (by omega))) rfl (a_ (g_ rfl) rfl (e_ (w_ rfl ?_))))))))
       exact aa_ ⟨(n + 1, (rls (bF_ m) idk (aS_ (uniq [] p)) (Ix.add x (decide (f ∈ fm)) f) f 6 (q, fm)).1, (rls (bF_ m) idk (aS_ (uniq [] p)) (Ix.add x (decide (f ∈ fm)) f) f 6 (q, fm)).2, (Ix.add x (decide (f ∈ fm)) f), Ha1, Hu1, Ho1, Hi1, Hr1, Hm1, Hs), (hu_ hvk hL hf (by have e : nrl f = 6 := (by unfold nrl; simp [hk]); rw [e]) (by omega)), (by exact hS2), hI1, (gH_ hz _ f)⟩ (by dsimp only; omega) ⟨rfl, rfl, rfl, rfl, rfl, rfl, rfl, rfl, rfl, trivial⟩ (o_ i_ (o_ i_ (C_ (d_ x_) (C_ (d_ x_) (C_ (d_ x_) (C_ (d_ x_) (C_ (d_ x_) (C_ (d_ x_) Q_)))))))) (fun _ _ h => h)
      ·
       replace hr7 := of_decide_eq_true hr7
       have hlfv : j < List.length (rlV g 1) := by show j < 6; omega
       obtain ⟨fv, hfv⟩ : ∃ e0, (rlV g 1)[j]? = some e0 := ⟨_, List.getElem?_eq_getElem hlfv⟩
       have hmfv : fv ∈ (rlV g 1) := List.mem_of_getElem? hfv
       refine u_ rfl (F_ (b_ rfl (h_ (N_ (h_ (c_ (a_ (ad_ bv_ aU_ rfl rfl (fun v _ h => av_ (n := 1) ef_ (by decide) (by exact h.1) hfv) (by omega) (by omega)) rfl (a_ (aG_ (ad := (some ⟨r1, 0, none⟩)) bs_ rfl (fun v _ h => by exact h.1) (ag_ ef_ hfv 0 _ rfl)) rfl (a_ (g_ rfl) rfl ?_)))))))))
       refine e_ (b_ rfl (h_ (c_ (a_ (f_ rfl) rfl (a_ (ae_ 2 V_ B_ rfl rfl rfl) rfl ?_)))))
       obtain ⟨nr, rfl, hT⟩ := nm_ (EngB.mk g pb ab ub ob ib rb sb lad lcap (an_ (uniq [] p))) (EA m hm (EngB.mk g pb ab ub ob ib rb sb lad lcap (an_ (uniq [] p))) b2 b3 b4 kb fb) (EngA.mk adr (fun _ => (none, 0)) (fun _ => (none, 0)) (fun _ => (none, 0)) (fun _ => (none, 0)) (fun _ => (none, 0)) (fun _ => (none, 0))) (aS_ (uniq [] p)) (Ix.add x (decide (f ∈ fm)) f) f (rls (bF_ m) idk (aS_ (uniq [] p)) (Ix.add x (decide (f ∈ fm)) f) f j (q, fm)).1 (rls (bF_ m) idk (aS_ (uniq [] p)) (Ix.add x (decide (f ∈ fm)) f) f j (q, fm)).2 Hs hS2 Ha1 Hu1 Ho1 Hi1 Hr1 Hm1 hI1 hpl hxl1 hyl1 (fun hk => (fn_ hform hk).2.2) (fun _ y hy => (hvk y (pm9.1 hy).1).num (.inr (pm9.1 hy).2.1)) hk j hfv
       refine ba_ (first := [zp_ g 0]) (vs := [Fc.val f]) (cap := []) hT rfl rfl (ii_ (C_ (d_ (d_ (d_ x_))) (C_ (d_ (d_ (d_ x_))) (C_ (d_ (d_ (d_ x_))) (C_ (d_ (d_ (d_ x_))) (C_ (d_ (d_ (d_ x_))) (C_ (d_ (d_ (d_ x_))) (d_ (d_ Q_))))))))) (fun v _ h => by exact ⟨h.2.2.2.2.2.1, h.2.2.2.2.1, ⟨h.2.2.2.2.2.2.2.1, h.2.2.2.2.2.2.1, h.2.2.2.2.2.1⟩, trivial⟩) rfl fun ⟨Hs3, hS3⟩ => ?_
       refine al_ hb_ (e_ (b_ rfl (al_ (bb_ (q_ (q_ (q_ (q_ (q_ (q_ (q_ i_))))))) (bb_ (q_ (q_ (q_ (q_ (q_ (q_ (q_ i_))))))) (cj_ (q_ (q_ (q_ (q_ (q_ (q_ aX_))))))))) (h_ ?_))))
       refine aE_ (by kernel_rfl) ?_
       refine Z_ 0 [0, 1, 2, 3, 4, 5, 6] (by kernel_rfl) (fun _ a b => ⟨a, b⟩) (n_ rfl (ai_ bC_ rfl (fun v _ h => by exact h.2.2.2.2.2.2.2.1) rfl) rfl (n_ rfl (aq_ rfl) rfl (n_ rfl (l_ K_ rfl rfl rfl bB_) rfl (n_ rfl (ai_ bH_ rfl (fun v _ h => by exact h.2.2.2.2.2.1) rfl) rfl (n_ rfl (bm_ (fg_ (E := (EA m hm (EngB.mk g pb ab ub ob ib rb sb lad lcap (an_ (uniq [] p))) b2 b3 b4 kb fb)) (nw := (rls (bF_ m) idk (aS_ (uniq [] p)) (Ix.add x (decide (f ∈ fm)) f) f (j + 1) (q, fm)).1) (Hs := Hs3) hS3 aV_ rfl (d_ (d_ (d_ (q_ (q_ (q_ (q_ (q_ aX_))))))))) (show _ = Value.int .i64 (List.length (rls (bF_ m) idk (aS_ (uniq [] p)) (Ix.add x (decide (f ∈ fm)) f) f (j + 1) (q, fm)).1 : Int) from rfl)) rfl (n_ rfl (ai_ L_ rfl (fun v _ h => by exact h.2.2.2.2.2.2.1) rfl) rfl ?_))))))
       refine bX_ rfl (cp_ rfl rfl) rfl fun r8 hr8 => ?_
       refine Y_ (ab_ (by kernel_rfl) (b_ rfl ?_))
       cases r8
       ·
        replace hr8 := of_decide_eq_false hr8
        refine v_ rfl (F_ (b_ rfl (c_ (a_ (M_ rfl rfl rfl (aj_ (by omega) (by omega))) rfl (a_ (f_ rfl) rfl (e_ (w_ rfl ?_)))))))
        exact aa_ ⟨(j + 1, Hs3), hlfv, by exact hS3, .inr (by dsimp only; omega)⟩ (by dsimp only; omega) ⟨rfl, rfl, rfl, rfl, rfl, rfl, rfl, rfl, rfl, rfl, rfl, rfl, rfl, trivial⟩ (o_ i_ (o_ i_ (o_ i_ (C_ x_ (C_ x_ (C_ x_ (C_ x_ (C_ x_ (C_ x_ aC_))))))))) (fun _ _ h => h)
       ·
        replace hr8 := of_decide_eq_true hr8
        refine u_ rfl (as_ rfl (b_ rfl (h_ (h_ ?_))))
        refine aE_ (by kernel_rfl) ?_
        refine Z_ 0 [0, 1, 2, 3, 4, 5, 6] (by kernel_rfl) (fun _ a b => ⟨a, b⟩) (n_ rfl (ai_ bC_ rfl (fun v _ h => by exact h.2.2.2.2.2.2.2.1) rfl) rfl (n_ rfl (aq_ rfl) rfl (n_ rfl (l_ K_ rfl rfl rfl bB_) rfl (n_ rfl (ai_ bH_ rfl (fun v _ h => by exact h.2.2.2.2.2.1) rfl) rfl (n_ rfl (bm_ (fg_ (E := (EA m hm (EngB.mk g pb ab ub ob ib rb sb lad lcap (an_ (uniq [] p))) b2 b3 b4 kb fb)) (nw := (rls (bF_ m) idk (aS_ (uniq [] p)) (Ix.add x (decide (f ∈ fm)) f) f (j + 1) (q, fm)).1) (Hs := Hs3) hS3 aV_ rfl (d_ (d_ (d_ (q_ (q_ (q_ (q_ (q_ aX_))))))))) (show _ = Value.int .i64 (List.length (rls (bF_ m) idk (aS_ (uniq [] p)) (Ix.add x (decide (f ∈ fm)) f) f (j + 1) (q, fm)).1 : Int) from rfl)) rfl (n_ rfl (ai_ L_ rfl (fun v _ h => by exact h.2.2.2.2.2.2.1) rfl) rfl ?_))))))
        refine bX_ rfl (cp_ rfl rfl) rfl fun r9 hr9 => ?_
        refine Y_ (ab_ (by kernel_rfl) (b_ rfl ?_))
        cases r9
        ·
         replace hr9 := of_decide_eq_false hr9
         omega
        ·
         replace hr9 := of_decide_eq_true hr9
         refine u_ rfl (h_ (h_ (c_ (a_ (f_ rfl) rfl (y_ (ax_ rfl rfl) rfl fun r10 hr10 => ?_)))))
         refine e_ (b_ rfl ?_)
         cases r10
         ·
          replace hr10 := of_decide_eq_false hr10
          refine v_ rfl (F_ (b_ rfl (h_ (c_ (a_ (aL_ eM_ rfl rfl) rfl (af_ 0 aI_ rfl rfl rfl rfl rfl rfl (a_ (g_ rfl) rfl (e_ (b_ rfl ?_)))))))))
          refine H_ ?_
          exact gb_ ⟨((Cl.mk [] none 0 [] none 0), 2), en_ hchk hb0 hb1 hm0' (by rw [if_neg (by assumption)]) (cB_ hvk hL hf (j + 1) rfl).1 (cB_ hvk hL hf (j + 1) rfl).2.2.1 (by omega)⟩ (fun aa v h1 h2 => eP_ (us := Cl.cells (Cl.mk [] none 0 [] none 0)) 0 cZ_ bI_ aI_ rfl rfl rfl rfl aa v h1 h2) J_ (fun v _ h => by exact ⟨.inl rfl, .inl rfl, trivial⟩)
         ·
          replace hr10 := of_decide_eq_true hr10
          refine u_ rfl (h_ (c_ (a_ (aL_ eM_ rfl rfl) rfl (af_ 0 aI_ rfl rfl rfl rfl rfl rfl (a_ (g_ rfl) rfl (e_ (b_ rfl (H_ ?_))))))))
          exact gb_ ⟨((Cl.mk [] none 0 [] none 0), 3), en_ hchk hb0 hb1 hm0' (by rw [if_pos (by assumption)]) (cB_ hvk hL hf (j + 1) rfl).1 (cB_ hvk hL hf (j + 1) rfl).2.2.1 (by omega)⟩ (fun aa v h1 h2 => eP_ (us := Cl.cells (Cl.mk [] none 0 [] none 0)) 0 cZ_ bI_ aI_ rfl rfl rfl rfl aa v h1 h2) J_ (fun v _ h => by exact ⟨.inl rfl, .inl rfl, trivial⟩)
     ·
      refine a_ (bm_ (eh_ dY_ hB_ rfl rfl (by omega) (by omega)) (show _ = zp_ b5 2 from by rw [hk]; rfl)) rfl (a_ (t_ 4 mQ_ rfl rfl rfl) rfl (a_ (ar_ bv_ rfl) rfl (a_ (f_ rfl) rfl (e_ (b_ rfl (N_ (eE_ (H' := ((b1, .cells #[.slice none 0 0, .slice none 0 0] 28 (0, 0)) :: ((b5, .cells #[.slice none 0 0, .slice (some ⟨r1, 0, none⟩) 6 6, .slice (some ⟨r2, 0, none⟩) 4 4, .slice (some ⟨r3, 0, none⟩) 2 2] 98 (0, 0)) :: ((b6, .cells (Fc.cells f).toArray 41 (0, 0)) :: (Ha1 ++ (Hu1 ++ (Ho1 ++ (Hi1 ++ (Hr1 ++ (Hm1 ++ ((b4, .cells #[sv1] 26 (0, 0)) :: (kb, .map es1 ce1) :: ([(fb, .map ef1 cf1)] ++ Hq1)))))))))))) (o_ (d_ (d_ (d_ i_))) (o_ (d_ (d_ (d_ i_))) (o_ (d_ (d_ i_)) (C_ (d_ (d_ x_)) (C_ (d_ (d_ x_)) (C_ (d_ (d_ x_)) (C_ (d_ (d_ x_)) (C_ (d_ (d_ x_)) (C_ (d_ (d_ x_)) (o_ i_ (o_ i_ (C_ x_ aC_)))))))))))) (fun v _ h => h) ?_)))))))
      refine aB_ (ι := {y : Nat × Hp // y.1 ≤ 4 ∧ ((EA m hm (EngB.mk g pb ab ub ob ib rb sb lad lcap (an_ (uniq [] p))) b2 b3 b4 kb fb)).St (rls (bF_ m) idk (aS_ (uniq [] p)) (Ix.add x (decide (f ∈ fm)) f) f y.1 (q, fm)).1 (rls (bF_ m) idk (aS_ (uniq [] p)) (Ix.add x (decide (f ∈ fm)) f) f y.1 (q, fm)).2 y.2 ∧ (y.1 = 0 ∨ ((rls (bF_ m) idk (aS_ (uniq [] p)) (Ix.add x (decide (f ∈ fm)) f) f y.1 (q, fm)).1).length ≤ m)}) (fun y => [(0, .slice pad (List.length p) pcap), (1, .int .i64 bu), (4, zp_ b1 0), (7, zp_ b2 0), (8, zp_ b3 0), (9, zp_ b4 0), (10, .slice aad (List.length (atS p)) acap), (11, zp_ b5 0), (12, .int .i64 (n : Int)), (13, zp_ b6 0), (60, .slice (some ⟨r2, 0, none⟩) 4 4), (61, .int .i64 4), (62, .int .i64 (y.1.1 : Int))]) (fun y => ((b1, .cells #[.slice none 0 0, .slice none 0 0] 28 (0, 0)) :: ((b5, .cells #[.slice none 0 0, .slice (some ⟨r1, 0, none⟩) 6 6, .slice (some ⟨r2, 0, none⟩) 4 4, .slice (some ⟨r3, 0, none⟩) 2 2] 98 (0, 0)) :: ((b6, .cells (Fc.cells f).toArray 41 (0, 0)) :: (Ha1 ++ (Hu1 ++ (Ho1 ++ (Hi1 ++ (Hr1 ++ (Hm1 ++ y.1.2)))))))))) (fun y => [az_ (some ⟨r1, 0, none⟩) (List.flatMap fvC (rlV g 1)), az_ (some ⟨r2, 0, none⟩) (List.flatMap fvC (rlV g 2)), az_ (some ⟨r3, 0, none⟩) (List.flatMap fvC (rlV g 3)), az_ aad (List.flatMap aH_ (atS p)), mlF Tryz.prog 171 Ky.val Pc.cells pb (aS_ (uniq [] p)) adr, cM_ g (.cells #[.map (some pb), .slice lad (List.length (an_ (uniq [] p))) lcap, .map (some kb), .func (.func 55) #[] #[zp_ b2 0, zp_ b3 0, zp_ b4 0], .map (some ab), .map (some ub), .map (some ob), .map (some ib), .map (some rb), .map (some sb), .map (some fb)] 94 (0, 0)), cM_ b3 (.cells #[.int .i64 (m : Int)] 3 (0, 0)), cM_ b2 (.cells #[zp_ g 0] 85 (0, 0)), az_ lad (List.flatMap aH_ (an_ (uniq [] p))), az_ pad (List.flatMap Pc.cells p), hk_]) (fun y => 4 - y.1.1) ⟨((0 : Nat), ((b4, .cells #[sv1] 26 (0, 0)) :: (kb, .map es1 ce1) :: ([(fb, .map ef1 cf1)] ++ Hq1))), by omega, by exact ⟨sv1, es1, ce1, ef1, cf1, qf1, Hq1, rfl, hrQ1, hEk1, hEf1, hqf1⟩, .inl rfl⟩ ⟨rfl, rfl, rfl, rfl, rfl, rfl, rfl, rfl, rfl, rfl, rfl, rfl, rfl, trivial⟩ (o_ i_ (o_ i_ (o_ i_ (C_ x_ (C_ x_ (C_ x_ (C_ x_ (C_ x_ (C_ x_ aC_))))))))) (fun _ _ h => h) ?_
      rintro ⟨⟨j, Hs⟩, hj, hS2, hjm⟩
      dsimp only at hj hS2 hjm ⊢
      refine h_ (c_ (y_ (ax_ rfl rfl) rfl fun r11 hr11 => ?_))
      refine e_ (b_ rfl (h_ ?_))
      cases r11
      ·
       replace hr11 := of_decide_eq_false hr11
       have ej : j = 4 := by omega
       have hjl : ((rls (bF_ m) idk (aS_ (uniq [] p)) (Ix.add x (decide (f ∈ fm)) f) f j (q, fm)).1).length ≤ m := hjm.resolve_left (by omega)
       rw [ej] at hjl hS2
       refine v_ rfl (as_ rfl (b_ rfl (c_ (a_ (f_ rfl) rfl (a_ (M_ rfl rfl rfl (aj_ (by omega) (by omega))) rfl (a_ (g_ rfl) rfl (e_ (w_ rfl ?_))))))))
       exact aa_ ⟨(n + 1, (rls (bF_ m) idk (aS_ (uniq [] p)) (Ix.add x (decide (f ∈ fm)) f) f 4 (q, fm)).1, (rls (bF_ m) idk (aS_ (uniq [] p)) (Ix.add x (decide (f ∈ fm)) f) f 4 (q, fm)).2, (Ix.add x (decide (f ∈ fm)) f), Ha1, Hu1, Ho1, Hi1, Hr1, Hm1, Hs), (hu_ hvk hL hf (by have e : nrl f = 4 := (by unfold nrl; simp [hk]); rw [e]) (by omega)), (by exact hS2), hI1, (gH_ hz _ f)⟩ (by dsimp only; omega) ⟨rfl, rfl, rfl, rfl, rfl, rfl, rfl, rfl, rfl, trivial⟩ (o_ i_ (o_ i_ (C_ (d_ x_) (C_ (d_ x_) (C_ (d_ x_) (C_ (d_ x_) (C_ (d_ x_) (C_ (d_ x_) Q_)))))))) (fun _ _ h => h)
      ·
       replace hr11 := of_decide_eq_true hr11
       have hlfv : j < List.length (rlV g 2) := by show j < 4; omega
       obtain ⟨fv, hfv⟩ : ∃ e0, (rlV g 2)[j]? = some e0 := ⟨_, List.getElem?_eq_getElem hlfv⟩
       have hmfv : fv ∈ (rlV g 2) := List.mem_of_getElem? hfv
       refine u_ rfl (F_ (b_ rfl (h_ (N_ (h_ (c_ (a_ (ad_ bv_ aU_ rfl rfl (fun v _ h => av_ (n := 1) ef_ (by decide) (by exact h.2.1) hfv) (by omega) (by omega)) rfl (a_ (aG_ (ad := (some ⟨r2, 0, none⟩)) bs_ rfl (fun v _ h => by exact h.2.1) (ag_ ef_ hfv 0 _ rfl)) rfl (a_ (g_ rfl) rfl ?_)))))))))
       refine e_ (b_ rfl (h_ (c_ (a_ (f_ rfl) rfl (a_ (ae_ 2 V_ B_ rfl rfl rfl) rfl ?_)))))
       obtain ⟨nr, rfl, hT⟩ := nl_ (EngB.mk g pb ab ub ob ib rb sb lad lcap (an_ (uniq [] p))) (EA m hm (EngB.mk g pb ab ub ob ib rb sb lad lcap (an_ (uniq [] p))) b2 b3 b4 kb fb) (EngA.mk adr (fun _ => (none, 0)) (fun _ => (none, 0)) (fun _ => (none, 0)) (fun _ => (none, 0)) (fun _ => (none, 0)) (fun _ => (none, 0))) (aS_ (uniq [] p)) (Ix.add x (decide (f ∈ fm)) f) f (rls (bF_ m) idk (aS_ (uniq [] p)) (Ix.add x (decide (f ∈ fm)) f) f j (q, fm)).1 (rls (bF_ m) idk (aS_ (uniq [] p)) (Ix.add x (decide (f ∈ fm)) f) f j (q, fm)).2 Hs hS2 Ha1 Hu1 Ho1 Hi1 Hr1 Hm1 hI1 hpl hxl1 hyl1 (fun hk => (fn_ hform hk).2.2) (fun _ y hy => (hvk y (pm9.1 hy).1).num (.inr (pm9.1 hy).2.1)) hk j hfv
       refine ba_ (first := [zp_ g 0]) (vs := [Fc.val f]) (cap := []) hT rfl rfl (ii_ (C_ (d_ (d_ (d_ x_))) (C_ (d_ (d_ (d_ x_))) (C_ (d_ (d_ (d_ x_))) (C_ (d_ (d_ (d_ x_))) (C_ (d_ (d_ (d_ x_))) (C_ (d_ (d_ (d_ x_))) (d_ (d_ Q_))))))))) (fun v _ h => by exact ⟨h.2.2.2.2.2.1, h.2.2.2.2.1, ⟨h.2.2.2.2.2.2.2.1, h.2.2.2.2.2.2.1, h.2.2.2.2.2.1⟩, trivial⟩) rfl fun ⟨Hs3, hS3⟩ => ?_
       refine al_ hb_ (e_ (b_ rfl (al_ (bb_ (q_ (q_ (q_ (q_ (q_ (q_ (q_ i_))))))) (bb_ (q_ (q_ (q_ (q_ (q_ (q_ (q_ i_))))))) (cj_ (q_ (q_ (q_ (q_ (q_ (q_ aX_))))))))) (h_ ?_))))
       refine aE_ (by kernel_rfl) ?_
       refine Z_ 0 [0, 1, 2, 3, 4, 5, 6] (by kernel_rfl) (fun _ a b => ⟨a, b⟩) (n_ rfl (ai_ bC_ rfl (fun v _ h => by exact h.2.2.2.2.2.2.2.1) rfl) rfl (n_ rfl (aq_ rfl) rfl (n_ rfl (l_ K_ rfl rfl rfl bB_) rfl (n_ rfl (ai_ bH_ rfl (fun v _ h => by exact h.2.2.2.2.2.1) rfl) rfl (n_ rfl (bm_ (fg_ (E := (EA m hm (EngB.mk g pb ab ub ob ib rb sb lad lcap (an_ (uniq [] p))) b2 b3 b4 kb fb)) (nw := (rls (bF_ m) idk (aS_ (uniq [] p)) (Ix.add x (decide (f ∈ fm)) f) f (j + 1) (q, fm)).1) (Hs := Hs3) hS3 aV_ rfl (d_ (d_ (d_ (q_ (q_ (q_ (q_ (q_ aX_))))))))) (show _ = Value.int .i64 (List.length (rls (bF_ m) idk (aS_ (uniq [] p)) (Ix.add x (decide (f ∈ fm)) f) f (j + 1) (q, fm)).1 : Int) from rfl)) rfl (n_ rfl (ai_ L_ rfl (fun v _ h => by exact h.2.2.2.2.2.2.1) rfl) rfl ?_))))))
       refine bX_ rfl (cp_ rfl rfl) rfl fun r12 hr12 => ?_
       refine Y_ (ab_ (by kernel_rfl) (b_ rfl ?_))
       cases r12
       ·
        replace hr12 := of_decide_eq_false hr12
        refine v_ rfl (F_ (b_ rfl (c_ (a_ (M_ rfl rfl rfl (aj_ (by omega) (by omega))) rfl (a_ (f_ rfl) rfl (e_ (w_ rfl ?_)))))))
        exact aa_ ⟨(j + 1, Hs3), hlfv, by exact hS3, .inr (by dsimp only; omega)⟩ (by dsimp only; omega) ⟨rfl, rfl, rfl, rfl, rfl, rfl, rfl, rfl, rfl, rfl, rfl, rfl, rfl, trivial⟩ (o_ i_ (o_ i_ (o_ i_ (C_ x_ (C_ x_ (C_ x_ (C_ x_ (C_ x_ (C_ x_ aC_))))))))) (fun _ _ h => h)
       ·
        replace hr12 := of_decide_eq_true hr12
        refine u_ rfl (as_ rfl (b_ rfl (h_ (h_ ?_))))
        refine aE_ (by kernel_rfl) ?_
        refine Z_ 0 [0, 1, 2, 3, 4, 5, 6] (by kernel_rfl) (fun _ a b => ⟨a, b⟩) (n_ rfl (ai_ bC_ rfl (fun v _ h => by exact h.2.2.2.2.2.2.2.1) rfl) rfl (n_ rfl (aq_ rfl) rfl (n_ rfl (l_ K_ rfl rfl rfl bB_) rfl (n_ rfl (ai_ bH_ rfl (fun v _ h => by exact h.2.2.2.2.2.1) rfl) rfl (n_ rfl (bm_ (fg_ (E := (EA m hm (EngB.mk g pb ab ub ob ib rb sb lad lcap (an_ (uniq [] p))) b2 b3 b4 kb fb)) (nw := (rls (bF_ m) idk (aS_ (uniq [] p)) (Ix.add x (decide (f ∈ fm)) f) f (j + 1) (q, fm)).1) (Hs := Hs3) hS3 aV_ rfl (d_ (d_ (d_ (q_ (q_ (q_ (q_ (q_ aX_))))))))) (show _ = Value.int .i64 (List.length (rls (bF_ m) idk (aS_ (uniq [] p)) (Ix.add x (decide (f ∈ fm)) f) f (j + 1) (q, fm)).1 : Int) from rfl)) rfl (n_ rfl (ai_ L_ rfl (fun v _ h => by exact h.2.2.2.2.2.2.1) rfl) rfl ?_))))))
        refine bX_ rfl (cp_ rfl rfl) rfl fun r13 hr13 => ?_
        refine Y_ (ab_ (by kernel_rfl) (b_ rfl ?_))
        cases r13
        ·
         replace hr13 := of_decide_eq_false hr13
         omega
        ·
         replace hr13 := of_decide_eq_true hr13
         refine u_ rfl (h_ (h_ (c_ (a_ (f_ rfl) rfl (y_ (ax_ rfl rfl) rfl fun r14 hr14 => ?_)))))
         refine e_ (b_ rfl ?_)
         cases r14
         ·
          replace hr14 := of_decide_eq_false hr14
          refine v_ rfl (F_ (b_ rfl (h_ (c_ (a_ (aL_ eM_ rfl rfl) rfl (af_ 0 aI_ rfl rfl rfl rfl rfl rfl (a_ (g_ rfl) rfl (e_ (b_ rfl ?_)))))))))
          refine H_ ?_
          exact gb_ ⟨((Cl.mk [] none 0 [] none 0), 2), en_ hchk hb0 hb1 hm0' (by rw [if_neg (by assumption)]) (cB_ hvk hL hf (j + 1) rfl).1 (cB_ hvk hL hf (j + 1) rfl).2.2.1 (by omega)⟩ (fun aa v h1 h2 => eP_ (us := Cl.cells (Cl.mk [] none 0 [] none 0)) 0 cZ_ bI_ aI_ rfl rfl rfl rfl aa v h1 h2) J_ (fun v _ h => by exact ⟨.inl rfl, .inl rfl, trivial⟩)
         ·
          replace hr14 := of_decide_eq_true hr14
          refine u_ rfl (h_ (c_ (a_ (aL_ eM_ rfl rfl) rfl (af_ 0 aI_ rfl rfl rfl rfl rfl rfl (a_ (g_ rfl) rfl (e_ (b_ rfl (H_ ?_))))))))
          exact gb_ ⟨((Cl.mk [] none 0 [] none 0), 3), en_ hchk hb0 hb1 hm0' (by rw [if_pos (by assumption)]) (cB_ hvk hL hf (j + 1) rfl).1 (cB_ hvk hL hf (j + 1) rfl).2.2.1 (by omega)⟩ (fun aa v h1 h2 => eP_ (us := Cl.cells (Cl.mk [] none 0 [] none 0)) 0 cZ_ bI_ aI_ rfl rfl rfl rfl aa v h1 h2) J_ (fun v _ h => by exact ⟨.inl rfl, .inl rfl, trivial⟩)
     ·
      refine a_ (bm_ (eh_ dY_ hB_ rfl rfl (by omega) (by omega)) (show _ = zp_ b5 3 from by rw [hk]; rfl)) rfl (a_ (t_ 4 mQ_ rfl rfl rfl) rfl (a_ (ar_ bv_ rfl) rfl (a_ (f_ rfl) rfl (e_ (b_ rfl (N_ (eE_ (H' := ((b1, .cells #[.slice none 0 0, .slice none 0 0] 28 (0, 0)) :: ((b5, .cells #[.slice none 0 0, .slice (some ⟨r1, 0, none⟩) 6 6, .slice (some ⟨r2, 0, none⟩) 4 4, .slice (some ⟨r3, 0, none⟩) 2 2] 98 (0, 0)) :: ((b6, .cells (Fc.cells f).toArray 41 (0, 0)) :: (Ha1 ++ (Hu1 ++ (Ho1 ++ (Hi1 ++ (Hr1 ++ (Hm1 ++ ((b4, .cells #[sv1] 26 (0, 0)) :: (kb, .map es1 ce1) :: ([(fb, .map ef1 cf1)] ++ Hq1)))))))))))) (o_ (d_ (d_ (d_ i_))) (o_ (d_ (d_ (d_ i_))) (o_ (d_ (d_ i_)) (C_ (d_ (d_ x_)) (C_ (d_ (d_ x_)) (C_ (d_ (d_ x_)) (C_ (d_ (d_ x_)) (C_ (d_ (d_ x_)) (C_ (d_ (d_ x_)) (o_ i_ (o_ i_ (C_ x_ aC_)))))))))))) (fun v _ h => h) ?_)))))))
      refine aB_ (ι := {y : Nat × Hp // y.1 ≤ 2 ∧ ((EA m hm (EngB.mk g pb ab ub ob ib rb sb lad lcap (an_ (uniq [] p))) b2 b3 b4 kb fb)).St (rls (bF_ m) idk (aS_ (uniq [] p)) (Ix.add x (decide (f ∈ fm)) f) f y.1 (q, fm)).1 (rls (bF_ m) idk (aS_ (uniq [] p)) (Ix.add x (decide (f ∈ fm)) f) f y.1 (q, fm)).2 y.2 ∧ (y.1 = 0 ∨ ((rls (bF_ m) idk (aS_ (uniq [] p)) (Ix.add x (decide (f ∈ fm)) f) f y.1 (q, fm)).1).length ≤ m)}) (fun y => [(0, .slice pad (List.length p) pcap), (1, .int .i64 bu), (4, zp_ b1 0), (7, zp_ b2 0), (8, zp_ b3 0), (9, zp_ b4 0), (10, .slice aad (List.length (atS p)) acap), (11, zp_ b5 0), (12, .int .i64 (n : Int)), (13, zp_ b6 0), (60, .slice (some ⟨r3, 0, none⟩) 2 2), (61, .int .i64 2), (62, .int .i64 (y.1.1 : Int))]) (fun y => ((b1, .cells #[.slice none 0 0, .slice none 0 0] 28 (0, 0)) :: ((b5, .cells #[.slice none 0 0, .slice (some ⟨r1, 0, none⟩) 6 6, .slice (some ⟨r2, 0, none⟩) 4 4, .slice (some ⟨r3, 0, none⟩) 2 2] 98 (0, 0)) :: ((b6, .cells (Fc.cells f).toArray 41 (0, 0)) :: (Ha1 ++ (Hu1 ++ (Ho1 ++ (Hi1 ++ (Hr1 ++ (Hm1 ++ y.1.2)))))))))) (fun y => [az_ (some ⟨r1, 0, none⟩) (List.flatMap fvC (rlV g 1)), az_ (some ⟨r2, 0, none⟩) (List.flatMap fvC (rlV g 2)), az_ (some ⟨r3, 0, none⟩) (List.flatMap fvC (rlV g 3)), az_ aad (List.flatMap aH_ (atS p)), mlF Tryz.prog 171 Ky.val Pc.cells pb (aS_ (uniq [] p)) adr, cM_ g (.cells #[.map (some pb), .slice lad (List.length (an_ (uniq [] p))) lcap, .map (some kb), .func (.func 55) #[] #[zp_ b2 0, zp_ b3 0, zp_ b4 0], .map (some ab), .map (some ub), .map (some ob), .map (some ib), .map (some rb), .map (some sb), .map (some fb)] 94 (0, 0)), cM_ b3 (.cells #[.int .i64 (m : Int)] 3 (0, 0)), cM_ b2 (.cells #[zp_ g 0] 85 (0, 0)), az_ lad (List.flatMap aH_ (an_ (uniq [] p))), az_ pad (List.flatMap Pc.cells p), hk_]) (fun y => 2 - y.1.1) ⟨((0 : Nat), ((b4, .cells #[sv1] 26 (0, 0)) :: (kb, .map es1 ce1) :: ([(fb, .map ef1 cf1)] ++ Hq1))), by omega, by exact ⟨sv1, es1, ce1, ef1, cf1, qf1, Hq1, rfl, hrQ1, hEk1, hEf1, hqf1⟩, .inl rfl⟩ ⟨rfl, rfl, rfl, rfl, rfl, rfl, rfl, rfl, rfl, rfl, rfl, rfl, rfl, trivial⟩ (o_ i_ (o_ i_ (o_ i_ (C_ x_ (C_ x_ (C_ x_ (C_ x_ (C_ x_ (C_ x_ aC_))))))))) (fun _ _ h => h) ?_
      rintro ⟨⟨j, Hs⟩, hj, hS2, hjm⟩
      dsimp only at hj hS2 hjm ⊢
      refine h_ (c_ (y_ (ax_ rfl rfl) rfl fun r15 hr15 => ?_))
      refine e_ (b_ rfl (h_ ?_))
      cases r15
      ·
       replace hr15 := of_decide_eq_false hr15
       have ej : j = 2 := by omega
       have hjl : ((rls (bF_ m) idk (aS_ (uniq [] p)) (Ix.add x (decide (f ∈ fm)) f) f j (q, fm)).1).length ≤ m := hjm.resolve_left (by omega)
       rw [ej] at hjl hS2
       refine v_ rfl (as_ rfl (b_ rfl (c_ (a_ (f_ rfl) rfl (a_ (M_ rfl rfl rfl (aj_ (by omega) (by omega))) rfl (a_ (g_ rfl) rfl (e_ (w_ rfl ?_))))))))
       exact aa_ ⟨(n + 1, (rls (bF_ m) idk (aS_ (uniq [] p)) (Ix.add x (decide (f ∈ fm)) f) f 2 (q, fm)).1, (rls (bF_ m) idk (aS_ (uniq [] p)) (Ix.add x (decide (f ∈ fm)) f) f 2 (q, fm)).2, (Ix.add x (decide (f ∈ fm)) f), Ha1, Hu1, Ho1, Hi1, Hr1, Hm1, Hs), (hu_ hvk hL hf (by have e : nrl f = 2 := (by unfold nrl; simp [hk]); rw [e]) (by omega)), (by exact hS2), hI1, (gH_ hz _ f)⟩ (by dsimp only; omega) ⟨rfl, rfl, rfl, rfl, rfl, rfl, rfl, rfl, rfl, trivial⟩ (o_ i_ (o_ i_ (C_ (d_ x_) (C_ (d_ x_) (C_ (d_ x_) (C_ (d_ x_) (C_ (d_ x_) (C_ (d_ x_) Q_)))))))) (fun _ _ h => h)
      ·
       replace hr15 := of_decide_eq_true hr15
       have hlfv : j < List.length (rlV g 3) := by show j < 2; omega
       obtain ⟨fv, hfv⟩ : ∃ e0, (rlV g 3)[j]? = some e0 := ⟨_, List.getElem?_eq_getElem hlfv⟩
       have hmfv : fv ∈ (rlV g 3) := List.mem_of_getElem? hfv
       refine u_ rfl (F_ (b_ rfl (h_ (N_ (h_ (c_ (a_ (ad_ bv_ aU_ rfl rfl (fun v _ h => av_ (n := 1) ef_ (by decide) (by exact h.2.2.1) hfv) (by omega) (by omega)) rfl (a_ (aG_ (ad := (some ⟨r3, 0, none⟩)) bs_ rfl (fun v _ h => by exact h.2.2.1) (ag_ ef_ hfv 0 _ rfl)) rfl (a_ (g_ rfl) rfl ?_)))))))))
       refine e_ (b_ rfl (h_ (c_ (a_ (f_ rfl) rfl (a_ (ae_ 2 V_ B_ rfl rfl rfl) rfl ?_)))))
       obtain ⟨nr, rfl, hT⟩ := nk_ (EngB.mk g pb ab ub ob ib rb sb lad lcap (an_ (uniq [] p))) (EA m hm (EngB.mk g pb ab ub ob ib rb sb lad lcap (an_ (uniq [] p))) b2 b3 b4 kb fb) (EngA.mk adr (fun _ => (none, 0)) (fun _ => (none, 0)) (fun _ => (none, 0)) (fun _ => (none, 0)) (fun _ => (none, 0)) (fun _ => (none, 0))) (aS_ (uniq [] p)) (Ix.add x (decide (f ∈ fm)) f) f (rls (bF_ m) idk (aS_ (uniq [] p)) (Ix.add x (decide (f ∈ fm)) f) f j (q, fm)).1 (rls (bF_ m) idk (aS_ (uniq [] p)) (Ix.add x (decide (f ∈ fm)) f) f j (q, fm)).2 Hs hS2 Ha1 Hu1 Ho1 Hi1 Hr1 Hm1 hI1 hpl hxl1 hyl1 (fun hk => (fn_ hform hk).2.2) (fun _ y hy => (hvk y (pm9.1 hy).1).num (.inr (pm9.1 hy).2.1)) hk j hfv
       refine ba_ (first := [zp_ g 0]) (vs := [Fc.val f]) (cap := []) hT rfl rfl (ii_ (C_ (d_ (d_ (d_ x_))) (C_ (d_ (d_ (d_ x_))) (C_ (d_ (d_ (d_ x_))) (C_ (d_ (d_ (d_ x_))) (C_ (d_ (d_ (d_ x_))) (C_ (d_ (d_ (d_ x_))) (d_ (d_ Q_))))))))) (fun v _ h => by exact ⟨h.2.2.2.2.2.1, h.2.2.2.2.1, ⟨h.2.2.2.2.2.2.2.1, h.2.2.2.2.2.2.1, h.2.2.2.2.2.1⟩, trivial⟩) rfl fun ⟨Hs3, hS3⟩ => ?_
       refine al_ hb_ (e_ (b_ rfl (al_ (bb_ (q_ (q_ (q_ (q_ (q_ (q_ (q_ i_))))))) (bb_ (q_ (q_ (q_ (q_ (q_ (q_ (q_ i_))))))) (cj_ (q_ (q_ (q_ (q_ (q_ (q_ aX_))))))))) (h_ ?_))))
       refine aE_ (by kernel_rfl) ?_
       refine Z_ 0 [0, 1, 2, 3, 4, 5, 6] (by kernel_rfl) (fun _ a b => ⟨a, b⟩) (n_ rfl (ai_ bC_ rfl (fun v _ h => by exact h.2.2.2.2.2.2.2.1) rfl) rfl (n_ rfl (aq_ rfl) rfl (n_ rfl (l_ K_ rfl rfl rfl bB_) rfl (n_ rfl (ai_ bH_ rfl (fun v _ h => by exact h.2.2.2.2.2.1) rfl) rfl (n_ rfl (bm_ (fg_ (E := (EA m hm (EngB.mk g pb ab ub ob ib rb sb lad lcap (an_ (uniq [] p))) b2 b3 b4 kb fb)) (nw := (rls (bF_ m) idk (aS_ (uniq [] p)) (Ix.add x (decide (f ∈ fm)) f) f (j + 1) (q, fm)).1) (Hs := Hs3) hS3 aV_ rfl (d_ (d_ (d_ (q_ (q_ (q_ (q_ (q_ aX_))))))))) (show _ = Value.int .i64 (List.length (rls (bF_ m) idk (aS_ (uniq [] p)) (Ix.add x (decide (f ∈ fm)) f) f (j + 1) (q, fm)).1 : Int) from rfl)) rfl (n_ rfl (ai_ L_ rfl (fun v _ h => by exact h.2.2.2.2.2.2.1) rfl) rfl ?_))))))
       refine bX_ rfl (cp_ rfl rfl) rfl fun r16 hr16 => ?_
       refine Y_ (ab_ (by kernel_rfl) (b_ rfl ?_))
       cases r16
       ·
        replace hr16 := of_decide_eq_false hr16
        refine v_ rfl (F_ (b_ rfl (c_ (a_ (M_ rfl rfl rfl (aj_ (by omega) (by omega))) rfl (a_ (f_ rfl) rfl (e_ (w_ rfl ?_)))))))
        exact aa_ ⟨(j + 1, Hs3), hlfv, by exact hS3, .inr (by dsimp only; omega)⟩ (by dsimp only; omega) ⟨rfl, rfl, rfl, rfl, rfl, rfl, rfl, rfl, rfl, rfl, rfl, rfl, rfl, trivial⟩ (o_ i_ (o_ i_ (o_ i_ (C_ x_ (C_ x_ (C_ x_ (C_ x_ (C_ x_ (C_ x_ aC_))))))))) (fun _ _ h => h)
       ·
        replace hr16 := of_decide_eq_true hr16
        refine u_ rfl (as_ rfl (b_ rfl (h_ (h_ ?_))))
        refine aE_ (by kernel_rfl) ?_
        refine Z_ 0 [0, 1, 2, 3, 4, 5, 6] (by kernel_rfl) (fun _ a b => ⟨a, b⟩) (n_ rfl (ai_ bC_ rfl (fun v _ h => by exact h.2.2.2.2.2.2.2.1) rfl) rfl (n_ rfl (aq_ rfl) rfl (n_ rfl (l_ K_ rfl rfl rfl bB_) rfl (n_ rfl (ai_ bH_ rfl (fun v _ h => by exact h.2.2.2.2.2.1) rfl) rfl (n_ rfl (bm_ (fg_ (E := (EA m hm (EngB.mk g pb ab ub ob ib rb sb lad lcap (an_ (uniq [] p))) b2 b3 b4 kb fb)) (nw := (rls (bF_ m) idk (aS_ (uniq [] p)) (Ix.add x (decide (f ∈ fm)) f) f (j + 1) (q, fm)).1) (Hs := Hs3) hS3 aV_ rfl (d_ (d_ (d_ (q_ (q_ (q_ (q_ (q_ aX_))))))))) (show _ = Value.int .i64 (List.length (rls (bF_ m) idk (aS_ (uniq [] p)) (Ix.add x (decide (f ∈ fm)) f) f (j + 1) (q, fm)).1 : Int) from rfl)) rfl (n_ rfl (ai_ L_ rfl (fun v _ h => by exact h.2.2.2.2.2.2.1) rfl) rfl ?_))))))
        refine bX_ rfl (cp_ rfl rfl) rfl fun r17 hr17 => ?_
        refine Y_ (ab_ (by kernel_rfl) (b_ rfl ?_))
        cases r17
        ·
         replace hr17 := of_decide_eq_false hr17
         omega
        ·
         replace hr17 := of_decide_eq_true hr17
         refine u_ rfl (h_ (h_ (c_ (a_ (f_ rfl) rfl (y_ (ax_ rfl rfl) rfl fun r18 hr18 => ?_)))))
         refine e_ (b_ rfl ?_)
         cases r18
         ·
          replace hr18 := of_decide_eq_false hr18
          refine v_ rfl (F_ (b_ rfl (h_ (c_ (a_ (aL_ eM_ rfl rfl) rfl (af_ 0 aI_ rfl rfl rfl rfl rfl rfl (a_ (g_ rfl) rfl (e_ (b_ rfl ?_)))))))))
          refine H_ ?_
          exact gb_ ⟨((Cl.mk [] none 0 [] none 0), 2), en_ hchk hb0 hb1 hm0' (by rw [if_neg (by assumption)]) (cB_ hvk hL hf (j + 1) rfl).1 (cB_ hvk hL hf (j + 1) rfl).2.2.1 (by omega)⟩ (fun aa v h1 h2 => eP_ (us := Cl.cells (Cl.mk [] none 0 [] none 0)) 0 cZ_ bI_ aI_ rfl rfl rfl rfl aa v h1 h2) J_ (fun v _ h => by exact ⟨.inl rfl, .inl rfl, trivial⟩)
         ·
          replace hr18 := of_decide_eq_true hr18
          refine u_ rfl (h_ (c_ (a_ (aL_ eM_ rfl rfl) rfl (af_ 0 aI_ rfl rfl rfl rfl rfl rfl (a_ (g_ rfl) rfl (e_ (b_ rfl (H_ ?_))))))))
          exact gb_ ⟨((Cl.mk [] none 0 [] none 0), 3), en_ hchk hb0 hb1 hm0' (by rw [if_pos (by assumption)]) (cB_ hvk hL hf (j + 1) rfl).1 (cB_ hvk hL hf (j + 1) rfl).2.2.1 (by omega)⟩ (fun aa v h1 h2 => eP_ (us := Cl.cells (Cl.mk [] none 0 [] none 0)) 0 cZ_ bI_ aI_ rfl rfl rfl rfl aa v h1 h2) J_ (fun v _ h => by exact ⟨.inl rfl, .inl rfl, trivial⟩)
   ·
    replace hr3 := of_decide_eq_true hr3
    refine u_ rfl (h_ (c_ (a_ (aL_ eM_ rfl rfl) rfl (af_ 0 aI_ rfl rfl rfl rfl rfl rfl (a_ (g_ rfl) rfl (e_ (b_ rfl (H_ ?_))))))))
    exact gb_ ⟨((Cl.mk [] none 0 [] none 0), 1), ms_ (by assumption) (by omega)⟩ (fun aa v h1 h2 => eP_ (us := Cl.cells (Cl.mk [] none 0 [] none 0)) 0 cZ_ bI_ aI_ rfl rfl rfl rfl aa v h1 h2) J_ (fun v _ h => by exact ⟨.inl rfl, .inl rfl, trivial⟩)
  ·
   replace hr2 := of_decide_eq_true hr2
   refine s_ rfl rfl rfl rfl (s_ rfl rfl rfl rfl (a_ (G_ rfl rfl) rfl (e_ (b_ rfl (u_ rfl (h_ (c_ (a_ (aL_ eM_ rfl rfl) rfl (af_ 0 aI_ rfl rfl rfl rfl rfl rfl ?_)))))))))
   refine a_ (g_ rfl) rfl (e_ (b_ rfl (H_ ?_)))
   exact gb_ ⟨((Cl.mk [] none 0 [] none 0), 1), ms_ (by assumption) (by omega)⟩ (fun aa v h1 h2 => eP_ (us := Cl.cells (Cl.mk [] none 0 [] none 0)) 0 cZ_ bI_ aI_ rfl rfl rfl rfl aa v h1 h2) J_ (fun v _ h => by exact ⟨.inl rfl, .inl rfl, trivial⟩)
 ·
  replace hr1 := bn_ hr1
  refine u_ rfl (h_ (c_ (a_ (aL_ eM_ rfl rfl) rfl (a_ (f_ rfl) rfl (af_ 0 aI_ rfl rfl rfl rfl rfl rfl (a_ (g_ rfl) rfl (e_ (b_ rfl (H_ ?_)))))))))
  exact gb_ ⟨((Cl.mk [] none 0 [] none 0), (bW_ p)), qi_ (by assumption)⟩ (fun aa v h1 h2 => eP_ (us := Cl.cells (Cl.mk [] none 0 [] none 0)) 0 cZ_ bI_ aI_ rfl rfl rfl rfl aa v h1 h2) J_ (fun v _ h => by exact ⟨.inl rfl, .inl rfl, trivial⟩)
end Go.Proofs.YtpdbbglpbngeiaaGreatDoor
namespace Go.Proofs.YtpdbbglpbngeiaaGreatDoor
open Go Go.Sx Go.Proofs
attribute [local irreducible] Code.wp wpList wpAnyH
open Go.Vs
def dP_ (f : Fc) : Bool := decide (f = ak_ f.a f.b)
def cs_ (A : List Str) (f : Fc) : Bool :=
  decide (f.a ∈ A) && (if f.kind = 1 then decide (f.b ∈ A) && dP_ f
    else if f.kind = 2 then decide (f.b ∈ A) && (decide (f.r ≠ []) && decide (f = au_ f.a f.r f.b))
    else if f.kind = 3 then decide (f.r ≠ []) && (decide (f = aF_ f.a f.r f.lo f.hi) && (decide (-1099511627776 ≤ f.lo) && (decide (f.lo ≤ f.hi) && decide (f.hi ≤ 1099511627776))))
    else false)
abbrev jR_ (l : List Str) : Prop := l.Pairwise fun x y => x < y
structure ChkC (at' : List Str) (fs : List Fc) : Prop where
  sa : jR_ at'
  sf : Srt fs
  top : [42] ∈ at'
  bot : [33] ∈ at'
  ok : ∀ f ∈ fs, cs_ at' f = true
def rh_ (at' : List Str) (fs : List Fc) : Prop := jR_ at' ∧ Srt fs ∧ [42] ∈ at' ∧ [33] ∈ at' ∧ ∀ f ∈ fs, cs_ at' f = true
instance (at' : List Str) (fs : List Fc) : Decidable (rh_ at' fs) := by unfold rh_; exact inferInstance
theorem iS_ {at' : List Str} {fs : List Fc} : rh_ at' fs ↔ ChkC at' fs := ⟨fun ⟨a, b, c, d, e⟩ => ⟨a, b, c, d, e⟩, fun h => ⟨h.sa, h.sf, h.top, h.bot, h.ok⟩⟩
def dj_ (at' : List Str) (fs : List Fc) : Int := if rh_ at' fs then if 65536 < fs.length then 2 else 0 else 1
theorem iM_ {α : Type} {lt : α → α → Prop} (ht : ∀ {x y z}, lt x y → lt y z → lt x z) {l : List α} {k : Nat} {a b : α} (h : (l.take (k + 1)).Pairwise lt) (ha : l[k]? = some a) (hb : l[k + 1]? = some b) (hab : lt a b) : (l.take (k + 2)).Pairwise lt := by
  rw [List.take_add_one, hb, Option.toList_some, List.pairwise_append]
  refine ⟨h, by simp, fun x hx y hy => ?_⟩
  rw [List.mem_singleton] at hy
  subst hy
  rw [List.take_add_one, ha, Option.toList_some] at h hx
  rcases List.mem_append.1 hx with hx | hx
  · exact ht ((List.pairwise_append.1 h).2.2 x hx a (by simp)) hab
  · rw [List.mem_singleton] at hx; subst hx; exact hab
theorem gz_ {α : Type} {lt : α → α → Prop} {l : List α} {k : Nat} {a b : α} (ha : l[k]? = some a) (hb : l[k + 1]? = some b) (hab : ¬ lt a b) : ¬ l.Pairwise lt := fun h => by
  obtain ⟨h1, h2⟩ := List.getElem?_eq_some_iff.1 ha
  obtain ⟨h3, h4⟩ := List.getElem?_eq_some_iff.1 hb
  have := List.pairwise_iff_getElem.1 h k (k + 1) h1 h3 (by omega)
  rw [h2, h4] at this
  exact hab this
theorem kK_ {α : Type} {lt : α → α → Prop} (l : List α) : (l.take 1).Pairwise lt := by
  cases l <;> simp
theorem nI_ {x y : Fc} : 0 ≤ hY_ x y ↔ ¬ x.lt y := by rw [← mm_]; omega
theorem qW_ {x y : Fc} (h : ¬ 0 ≤ hY_ x y) : x.lt y := Decidable.byContradiction fun q => h (nI_.2 q)
theorem rq_ {x y : Str} : 0 ≤ Lib.compareBytes x y ↔ ¬ x < y := by rw [← mZ_]; omega
theorem cS_lt {x y : Str} (h : ¬ 0 ≤ Lib.compareBytes x y) : x < y := Decidable.byContradiction fun q => h (rq_.2 q)
theorem qN_ (f : Fc) : Fn0 Tryz.prog 86 #[Fc.val f] (.bool (dP_ f)) := by
  refine T_ Tryz.func86 rfl rfl Tryz.ntmps86 rfl fun v0 => ?_
  refine h_ (c_ (bh_ rfl rfl fun b1 => ?_))
  refine a_ (g_ rfl) rfl (e_ (b_ rfl (h_ ?_)))
  refine aE_ (by kernel_rfl) ?_
  refine Z_ 3 [0, 1, 2, 3, 4] (by kernel_rfl) (fun _ a b => ⟨a, b⟩) (n_ rfl (ae_ 0 V_ B_ rfl rfl rfl) rfl (n_ rfl (l_ k_ rfl rfl rfl j_) rfl (n_ rfl (t_ 0 p_ rfl rfl rfl) rfl (n_ rfl (l_ k_ rfl rfl rfl j_) rfl (n_ rfl (t_ 0 p_ rfl rfl rfl) rfl (Y_ (U_ 5 rfl (by kernel_rfl) (X_ (eU_ (Fc.a f) (Fc.b f)) rfl J_ (fun _ _ _ => by exact trivial) rfl fun _ => ?_))))))))
  refine e_ (w_ rfl (O_ (fun _ a b => ⟨a, b⟩) (Z_ 0 [6, 7] (by kernel_rfl) (fun _ a b => ⟨a, b⟩) ?_)))
  refine bX_ rfl (dy_ (p := f) (q := (ak_ (Fc.a f) (Fc.b f))) rfl rfl) rfl fun r1 hr1 => ?_
  refine n_ rfl (g_ rfl) rfl (Y_ (ab_ (by kernel_rfl) (b_ rfl (H_ ?_))))
  exact ap_ Tryz.results86 () (z_ rfl (by unfold dP_; exact hr1.symm)) J_ (fun _ _ _ => trivial)
theorem pR_ (f : Fc) (A : List Str) (mb : Nat) (es : Array MapEntry) (c : Nat) (hE : SetE str es A) : Tri Tryz.prog 73 #[Fc.val f, .map (some mb)] [(mb, .map es c)] [] (fun _ : Unit => .bool (cs_ A f)) (fun _ => [(mb, .map es c)]) (fun _ => []) := by
 refine T_ Tryz.func73 rfl rfl Tryz.ntmps73 rfl fun v0 => ?_
 refine h_ (c_ (bh_ rfl rfl fun b1 => ?_))
 refine a_ (g_ rfl) rfl (e_ (b_ rfl (h_ (h_ (c_ (a_ (f_ rfl) rfl (a_ (l_ k_ rfl rfl rfl j_) rfl (a_ (t_ 0 p_ rfl rfl rfl) rfl (y_ (cV_ (k := (Fc.a f)) fL_ eO_ cl_ rfl rfl hE (fun v h _ => (h.own _ (List.mem_of_getElem? (i := 1) rfl)).1)) rfl fun r1 hr1 => ?_)))))))))
 refine a_ (bN_ rfl) rfl (e_ (b_ rfl ?_))
 cases r1
 ·
  replace hr1 := dF hr1
  refine u_ rfl (h_ (c_ (a_ (g_ rfl) rfl (e_ (b_ rfl (H_ ?_))))))
  exact ap_ cY_ () (z_ rfl (by have p1 := eq_false hr1; simp only [cs_, dP_, p1, if_true, if_false, decide_true, decide_false, Bool.and_true, Bool.and_false, Bool.true_and, Bool.false_and, Bool.or_true, Bool.or_false, Bool.true_or, Bool.false_or, Bool.not_true, Bool.not_false, ne_eq, not_true_eq_false, not_false_eq_true, true_and, and_true, false_and, and_false, true_or, or_true, false_or, or_false, ite_true, ite_false, Bool.false_eq_true])) (d_ i_) (fun _ _ _ => trivial)
 ·
  replace hr1 := dT hr1
  refine v_ rfl (F_ (b_ rfl (h_ (h_ (c_ (a_ (l_ k_ rfl rfl rfl I_) rfl (a_ (t_ 0 L_ rfl rfl rfl) rfl (e_ (b_ rfl ?_)))))))))
  refine N_ (h_ (c_ (y_ (aD_ rfl rfl) rfl fun r2 hr2 => ?_)))
  refine a_ (g_ rfl) rfl (e_ (b_ rfl ?_))
  cases r2
  ·
   replace hr2 := ne_of_beq_false hr2
   refine v_ rfl (h_ (c_ (y_ (aD_ rfl rfl) rfl fun r3 hr3 => ?_)))
   refine a_ (g_ rfl) rfl (e_ (b_ rfl ?_))
   cases r3
   ·
    replace hr3 := ne_of_beq_false hr3
    refine v_ rfl (h_ (c_ (y_ (aD_ rfl rfl) rfl fun r4 hr4 => ?_)))
    refine a_ (g_ rfl) rfl (e_ (b_ rfl ?_))
    cases r4
    ·
     replace hr4 := ne_of_beq_false hr4
     refine v_ rfl (F_ (b_ rfl (h_ (c_ (a_ (g_ rfl) rfl (e_ (b_ rfl (H_ ?_))))))))
     exact ap_ cY_ () (z_ rfl (by have p1 := eq_true hr1; have p2 := eq_false hr2; have p3 := eq_false hr3; have p4 := eq_false hr4; simp only [cs_, dP_, p1, p2, p3, p4, if_true, if_false, decide_true, decide_false, Bool.and_true, Bool.and_false, Bool.true_and, Bool.false_and, Bool.or_true, Bool.or_false, Bool.true_or, Bool.false_or, Bool.not_true, Bool.not_false, ne_eq, not_true_eq_false, not_false_eq_true, true_and, and_true, false_and, and_false, true_or, or_true, false_or, or_false, ite_true, ite_false, Bool.false_eq_true])) (d_ i_) (fun _ _ _ => trivial)
    ·
     replace hr4 := eq_of_beq hr4
     refine u_ rfl (h_ ?_)
     refine aE_ (by kernel_rfl) ?_
     refine Z_ 30 [0, 1, 2, 3] (by kernel_rfl) (fun _ a b => ⟨a, b⟩) (n_ rfl (l_ k_ rfl rfl rfl j_) rfl (n_ rfl (t_ 0 p_ rfl rfl rfl) rfl ?_))
     refine bX_ rfl (dn_ rfl rfl) rfl fun r5 hr5 => ?_
     refine n_ rfl (f_ rfl) rfl (Y_ ?_)
     cases r5
     ·
      replace hr5 := bo_ hr5
      refine Z_ 0 [4, 5, 6, 7, 8, 9, 10, 11, 12, 13, 14, 15, 16, 17, 18, 19, 20, 21, 22, 23, 24, 25, 26, 27, 28, 29, 30, 31, 32, 33] (by kernel_rfl) (fun _ a b => ⟨a, b⟩) (ac_ rfl rfl rfl rfl rfl (ac_ rfl rfl rfl rfl rfl (ac_ rfl rfl rfl rfl rfl (ac_ rfl rfl rfl rfl rfl (ac_ rfl rfl rfl rfl rfl (ac_ rfl rfl rfl rfl rfl (ac_ rfl rfl rfl rfl rfl (ac_ rfl rfl rfl rfl rfl (ac_ rfl rfl rfl rfl rfl ?_)))))))))
      refine ac_ rfl rfl rfl rfl rfl (ac_ rfl rfl rfl rfl rfl (n_ rfl (A_ rfl rfl) rfl (n_ rfl (f_ rfl) rfl (ac_ rfl rfl rfl rfl rfl (ac_ rfl rfl rfl rfl rfl (ac_ rfl rfl rfl rfl rfl (n_ rfl (A_ rfl rfl) rfl (n_ rfl (f_ rfl) rfl (ac_ rfl rfl rfl rfl rfl ?_)))))))))
      refine ac_ rfl rfl rfl rfl rfl (ac_ rfl rfl rfl rfl rfl (ac_ rfl rfl rfl rfl rfl (ac_ rfl rfl rfl rfl rfl (n_ rfl (A_ rfl rfl) rfl (n_ rfl (f_ rfl) rfl (ac_ rfl rfl rfl rfl rfl (ac_ rfl rfl rfl rfl rfl (ac_ rfl rfl rfl rfl rfl (n_ rfl (A_ rfl rfl) rfl ?_)))))))))
      refine n_ rfl (g_ rfl) rfl (Y_ (ab_ (by kernel_rfl) (b_ rfl (H_ ?_))))
      exact ap_ cY_ () (z_ rfl (by have p1 := eq_true hr1; have p2 := eq_false hr2; have p3 := eq_false hr3; have p4 := eq_true hr4; have p5 := eq_true hr5; simp only [cs_, dP_, p1, p2, p3, p4, p5, if_true, if_false, decide_true, decide_false, Bool.and_true, Bool.and_false, Bool.true_and, Bool.false_and, Bool.or_true, Bool.or_false, Bool.true_or, Bool.false_or, Bool.not_true, Bool.not_false, ne_eq, not_true_eq_false, not_false_eq_true, true_and, and_true, false_and, and_false, true_or, or_true, false_or, or_false, ite_true, ite_false, Bool.false_eq_true])) (d_ i_) (fun _ _ _ => trivial)
     ·
      replace hr5 := bn_ hr5
      refine Z_ 21 [4, 5, 6, 7, 8, 9, 10, 11, 12] (by kernel_rfl) (fun _ a b => ⟨a, b⟩) (W_ rfl rfl rfl (ae_ 0 V_ B_ rfl rfl rfl) rfl (W_ rfl rfl rfl (l_ k_ rfl rfl rfl j_) rfl (W_ rfl rfl rfl (t_ 0 p_ rfl rfl rfl) rfl (W_ rfl rfl rfl (l_ k_ rfl rfl rfl j_) rfl (W_ rfl rfl rfl (t_ 0 p_ rfl rfl rfl) rfl (W_ rfl rfl rfl (l_ k_ rfl rfl rfl I_) rfl (W_ rfl rfl rfl (t_ 0 L_ rfl rfl rfl) rfl (W_ rfl rfl rfl (l_ k_ rfl rfl rfl I_) rfl (W_ rfl rfl rfl (t_ 0 L_ rfl rfl rfl) rfl ?_)))))))))
      refine Y_ (U_ 13 rfl (by kernel_rfl) (r_ rfl rfl (X_ (if_ (Fc.a f) (Fc.r f) (Fc.lo f) (Fc.hi f)) rfl J_ (fun _ _ _ => by exact trivial) rfl fun _ => ?_)))
      refine e_ (w_ rfl (O_ (fun _ a b => ⟨a, b⟩) (Z_ 17 [14, 15, 16] (by kernel_rfl) (fun _ a b => ⟨a, b⟩) ?_)))
      refine bQ_ rfl rfl rfl (dy_ (p := f) (q := (aF_ (Fc.a f) (Fc.r f) (Fc.lo f) (Fc.hi f))) rfl rfl) rfl fun r6 hr6 => ?_
      refine n_ rfl (G_ rfl rfl) rfl (n_ rfl (f_ rfl) rfl (Y_ ?_))
      cases r6
      ·
       replace hr6 := of_decide_eq_false hr6
       refine Z_ 0 [17, 18, 19, 20, 21, 22, 23, 24, 25, 26, 27, 28, 29, 30, 31, 32, 33] (by kernel_rfl) (fun _ a b => ⟨a, b⟩) (ac_ rfl rfl rfl rfl rfl (ac_ rfl rfl rfl rfl rfl (ac_ rfl rfl rfl rfl rfl (n_ rfl (A_ rfl rfl) rfl (n_ rfl (f_ rfl) rfl (ac_ rfl rfl rfl rfl rfl (ac_ rfl rfl rfl rfl rfl (ac_ rfl rfl rfl rfl rfl (ac_ rfl rfl rfl rfl rfl ?_)))))))))
       refine ac_ rfl rfl rfl rfl rfl (n_ rfl (A_ rfl rfl) rfl (n_ rfl (f_ rfl) rfl (ac_ rfl rfl rfl rfl rfl (ac_ rfl rfl rfl rfl rfl (ac_ rfl rfl rfl rfl rfl (n_ rfl (A_ rfl rfl) rfl (n_ rfl (g_ rfl) rfl (Y_ (ab_ (by kernel_rfl) ?_)))))))))
       refine b_ rfl (H_ ?_)
       exact ap_ cY_ () (z_ rfl (by have p1 := eq_true hr1; have p2 := eq_false hr2; have p3 := eq_false hr3; have p4 := eq_true hr4; have p5 := eq_false hr5; have p6 := eq_false hr6; simp only [cs_, dP_, p1, p2, p3, p4, p5, p6, if_true, if_false, decide_true, decide_false, Bool.and_true, Bool.and_false, Bool.true_and, Bool.false_and, Bool.or_true, Bool.or_false, Bool.true_or, Bool.false_or, Bool.not_true, Bool.not_false, ne_eq, not_true_eq_false, not_false_eq_true, true_and, and_true, false_and, and_false, true_or, or_true, false_or, or_false, ite_true, ite_false, Bool.false_eq_true])) (d_ i_) (fun _ _ _ => trivial)
      ·
       replace hr6 := of_decide_eq_true hr6
       refine Z_ 12 [17, 18, 19, 20, 21] (by kernel_rfl) (fun _ a b => ⟨a, b⟩) (W_ rfl rfl rfl (l_ k_ rfl rfl rfl I_) rfl (W_ rfl rfl rfl (t_ 0 L_ rfl rfl rfl) rfl ?_))
       refine bQ_ rfl rfl rfl (bM_ rfl rfl) rfl fun r7 hr7 => ?_
       refine n_ rfl (G_ rfl rfl) rfl (n_ rfl (f_ rfl) rfl (Y_ ?_))
       cases r7
       ·
        replace hr7 := of_decide_eq_false hr7
        refine Z_ 0 [22, 23, 24, 25, 26, 27, 28, 29, 30, 31, 32, 33] (by kernel_rfl) (fun _ a b => ⟨a, b⟩) (ac_ rfl rfl rfl rfl rfl (ac_ rfl rfl rfl rfl rfl (ac_ rfl rfl rfl rfl rfl (ac_ rfl rfl rfl rfl rfl (ac_ rfl rfl rfl rfl rfl (n_ rfl (A_ rfl rfl) rfl (n_ rfl (f_ rfl) rfl (ac_ rfl rfl rfl rfl rfl (ac_ rfl rfl rfl rfl rfl ?_)))))))))
        refine ac_ rfl rfl rfl rfl rfl (n_ rfl (A_ rfl rfl) rfl (n_ rfl (g_ rfl) rfl (Y_ (ab_ (by kernel_rfl) (b_ rfl (H_ ?_))))))
        exact ap_ cY_ () (z_ rfl (by have p1 := eq_true hr1; have p2 := eq_false hr2; have p3 := eq_false hr3; have p4 := eq_true hr4; have p5 := eq_false hr5; have p6 := eq_true hr6; have p7 := eq_false hr7; simp only [cs_, dP_, p1, p2, p3, p4, p5, p6, p7, if_true, if_false, decide_true, decide_false, Bool.and_true, Bool.and_false, Bool.true_and, Bool.false_and, Bool.or_true, Bool.or_false, Bool.true_or, Bool.false_or, Bool.not_true, Bool.not_false, ne_eq, not_true_eq_false, not_false_eq_true, true_and, and_true, false_and, and_false, true_or, or_true, false_or, or_false, ite_true, ite_false, Bool.false_eq_true])) (d_ i_) (fun _ _ _ => trivial)
       ·
        replace hr7 := of_decide_eq_true hr7
        refine Z_ 5 [22, 23, 24, 25, 26, 27, 28] (by kernel_rfl) (fun _ a b => ⟨a, b⟩) (W_ rfl rfl rfl (l_ k_ rfl rfl rfl I_) rfl (W_ rfl rfl rfl (t_ 0 L_ rfl rfl rfl) rfl (W_ rfl rfl rfl (l_ k_ rfl rfl rfl I_) rfl (W_ rfl rfl rfl (t_ 0 L_ rfl rfl rfl) rfl ?_))))
        refine bQ_ rfl rfl rfl (bM_ rfl rfl) rfl fun r8 hr8 => ?_
        refine n_ rfl (G_ rfl rfl) rfl (n_ rfl (f_ rfl) rfl (Y_ ?_))
        cases r8
        ·
         replace hr8 := of_decide_eq_false hr8
         refine Z_ 0 [29, 30, 31, 32, 33] (by kernel_rfl) (fun _ a b => ⟨a, b⟩) (ac_ rfl rfl rfl rfl rfl (ac_ rfl rfl rfl rfl rfl (ac_ rfl rfl rfl rfl rfl (n_ rfl (A_ rfl rfl) rfl (n_ rfl (g_ rfl) rfl (Y_ (ab_ (by kernel_rfl) (b_ rfl (H_ ?_)))))))))
         exact ap_ cY_ () (z_ rfl (by have p1 := eq_true hr1; have p2 := eq_false hr2; have p3 := eq_false hr3; have p4 := eq_true hr4; have p5 := eq_false hr5; have p6 := eq_true hr6; have p7 := eq_true hr7; have p8 := eq_false hr8; simp only [cs_, dP_, p1, p2, p3, p4, p5, p6, p7, p8, if_true, if_false, decide_true, decide_false, Bool.and_true, Bool.and_false, Bool.true_and, Bool.false_and, Bool.or_true, Bool.or_false, Bool.true_or, Bool.false_or, Bool.not_true, Bool.not_false, ne_eq, not_true_eq_false, not_false_eq_true, true_and, and_true, false_and, and_false, true_or, or_true, false_or, or_false, ite_true, ite_false, Bool.false_eq_true])) (d_ i_) (fun _ _ _ => trivial)
        ·
         replace hr8 := of_decide_eq_true hr8
         refine Z_ 0 [29, 30, 31, 32, 33] (by kernel_rfl) (fun _ a b => ⟨a, b⟩) (W_ rfl rfl rfl (l_ k_ rfl rfl rfl I_) rfl (W_ rfl rfl rfl (t_ 0 L_ rfl rfl rfl) rfl ?_))
         refine bQ_ rfl rfl rfl (bM_ rfl rfl) rfl fun r9 hr9 => ?_
         refine n_ rfl (G_ rfl rfl) rfl (n_ rfl (g_ rfl) rfl (Y_ (ab_ (by kernel_rfl) (b_ rfl (H_ ?_)))))
         exact ap_ cY_ () (z_ rfl (by have p1 := eq_true hr1; have p2 := eq_false hr2; have p3 := eq_false hr3; have p4 := eq_true hr4; have p5 := eq_false hr5; have p6 := eq_true hr6; have p7 := eq_true hr7; have p8 := eq_true hr8; rw [← hr9]; simp only [cs_, dP_, p1, p2, p3, p4, p5, p6, p7, p8, if_true, if_false, decide_true, decide_false, Bool.and_true, Bool.and_false, Bool.true_and, Bool.false_and, Bool.or_true, Bool.or_false, Bool.true_or, Bool.false_or, Bool.not_true, Bool.not_false, ne_eq, not_true_eq_false, not_false_eq_true, true_and, and_true, false_and, and_false, true_or, or_true, false_or, or_false, ite_true, ite_false, Bool.false_eq_true])) (d_ i_) (fun _ _ _ => trivial)
   ·
    replace hr3 := eq_of_beq hr3
    refine u_ rfl (h_ ?_)
    refine aE_ (by kernel_rfl) ?_
    refine Z_ 16 [0, 1, 2, 3, 4] (by kernel_rfl) (fun _ a b => ⟨a, b⟩) (n_ rfl (f_ rfl) rfl (n_ rfl (l_ k_ rfl rfl rfl j_) rfl (n_ rfl (t_ 0 p_ rfl rfl rfl) rfl ?_)))
    refine bX_ rfl (cV_ (k := (Fc.b f)) fL_ eO_ cl_ rfl rfl hE (fun v h _ => (h.own _ (List.mem_of_getElem? (i := 1) rfl)).1)) rfl fun r10 hr10 => ?_
    refine n_ rfl (f_ rfl) rfl (Y_ ?_)
    cases r10
    ·
     replace hr10 := dF hr10
     refine Z_ 0 [5, 6, 7, 8, 9, 10, 11, 12, 13, 14, 15, 16, 17, 18, 19, 20] (by kernel_rfl) (fun _ a b => ⟨a, b⟩) (ac_ rfl rfl rfl rfl rfl (ac_ rfl rfl rfl rfl rfl (ac_ rfl rfl rfl rfl rfl (n_ rfl (A_ rfl rfl) rfl (n_ rfl (f_ rfl) rfl (ac_ rfl rfl rfl rfl rfl (ac_ rfl rfl rfl rfl rfl (ac_ rfl rfl rfl rfl rfl (ac_ rfl rfl rfl rfl rfl ?_)))))))))
     refine ac_ rfl rfl rfl rfl rfl (ac_ rfl rfl rfl rfl rfl (ac_ rfl rfl rfl rfl rfl (ac_ rfl rfl rfl rfl rfl (ac_ rfl rfl rfl rfl rfl (n_ rfl (A_ rfl rfl) rfl (n_ rfl (g_ rfl) rfl (Y_ (ab_ (by kernel_rfl) (b_ rfl ?_)))))))))
     refine H_ ?_
     exact ap_ cY_ () (z_ rfl (by have p1 := eq_true hr1; have p2 := eq_false hr2; have p3 := eq_true hr3; have p4 := eq_false hr10; simp only [cs_, dP_, p1, p2, p3, p4, if_true, if_false, decide_true, decide_false, Bool.and_true, Bool.and_false, Bool.true_and, Bool.false_and, Bool.or_true, Bool.or_false, Bool.true_or, Bool.false_or, Bool.not_true, Bool.not_false, ne_eq, not_true_eq_false, not_false_eq_true, true_and, and_true, false_and, and_false, true_or, or_true, false_or, or_false, ite_true, ite_false, Bool.false_eq_true])) (d_ i_) (fun _ _ _ => trivial)
    ·
     replace hr10 := dT hr10
     refine Z_ 11 [5, 6, 7, 8, 9] (by kernel_rfl) (fun _ a b => ⟨a, b⟩) (W_ rfl rfl rfl (l_ k_ rfl rfl rfl j_) rfl (W_ rfl rfl rfl (t_ 0 p_ rfl rfl rfl) rfl ?_))
     refine bQ_ rfl rfl rfl (dn_ rfl rfl) rfl fun r11 hr11 => ?_
     refine n_ rfl (G_ rfl rfl) rfl (n_ rfl (f_ rfl) rfl (Y_ ?_))
     cases r11
     ·
      replace hr11 := bo_ hr11
      refine Z_ 0 [10, 11, 12, 13, 14, 15, 16, 17, 18, 19, 20] (by kernel_rfl) (fun _ a b => ⟨a, b⟩) (ac_ rfl rfl rfl rfl rfl (ac_ rfl rfl rfl rfl rfl (ac_ rfl rfl rfl rfl rfl (ac_ rfl rfl rfl rfl rfl (ac_ rfl rfl rfl rfl rfl (ac_ rfl rfl rfl rfl rfl (ac_ rfl rfl rfl rfl rfl (ac_ rfl rfl rfl rfl rfl (ac_ rfl rfl rfl rfl rfl ?_)))))))))
      refine n_ rfl (A_ rfl rfl) rfl (n_ rfl (g_ rfl) rfl (Y_ (ab_ (by kernel_rfl) (b_ rfl (H_ ?_)))))
      exact ap_ cY_ () (z_ rfl (by have p1 := eq_true hr1; have p2 := eq_false hr2; have p3 := eq_true hr3; have p4 := eq_true hr10; have p5 := eq_true hr11; simp only [cs_, dP_, p1, p2, p3, p4, p5, if_true, if_false, decide_true, decide_false, Bool.and_true, Bool.and_false, Bool.true_and, Bool.false_and, Bool.or_true, Bool.or_false, Bool.true_or, Bool.false_or, Bool.not_true, Bool.not_false, ne_eq, not_true_eq_false, not_false_eq_true, true_and, and_true, false_and, and_false, true_or, or_true, false_or, or_false, ite_true, ite_false, Bool.false_eq_true])) (d_ i_) (fun _ _ _ => trivial)
     ·
      replace hr11 := bn_ hr11
      refine Z_ 4 [10, 11, 12, 13, 14, 15, 16] (by kernel_rfl) (fun _ a b => ⟨a, b⟩) (W_ rfl rfl rfl (ae_ 0 V_ B_ rfl rfl rfl) rfl (W_ rfl rfl rfl (l_ k_ rfl rfl rfl j_) rfl (W_ rfl rfl rfl (t_ 0 p_ rfl rfl rfl) rfl (W_ rfl rfl rfl (l_ k_ rfl rfl rfl j_) rfl (W_ rfl rfl rfl (t_ 0 p_ rfl rfl rfl) rfl (W_ rfl rfl rfl (l_ k_ rfl rfl rfl j_) rfl (W_ rfl rfl rfl (t_ 0 p_ rfl rfl rfl) rfl (Y_ (U_ 17 rfl (by kernel_rfl) ?_)))))))))
      refine r_ rfl rfl (X_ (il_ (Fc.a f) (Fc.r f) (Fc.b f)) rfl J_ (fun _ _ _ => by exact trivial) rfl fun _ => ?_)
      refine e_ (w_ rfl (O_ (fun _ a b => ⟨a, b⟩) (Z_ 0 [18, 19, 20] (by kernel_rfl) (fun _ a b => ⟨a, b⟩) ?_)))
      refine bQ_ rfl rfl rfl (dy_ (p := f) (q := (au_ (Fc.a f) (Fc.r f) (Fc.b f))) rfl rfl) rfl fun r12 hr12 => ?_
      refine n_ rfl (G_ rfl rfl) rfl (n_ rfl (g_ rfl) rfl (Y_ (ab_ (by kernel_rfl) (b_ rfl (H_ ?_)))))
      exact ap_ cY_ () (z_ rfl (by have p1 := eq_true hr1; have p2 := eq_false hr2; have p3 := eq_true hr3; have p4 := eq_true hr10; have p5 := eq_false hr11; rw [← hr12]; simp only [cs_, dP_, p1, p2, p3, p4, p5, if_true, if_false, decide_true, decide_false, Bool.and_true, Bool.and_false, Bool.true_and, Bool.false_and, Bool.or_true, Bool.or_false, Bool.true_or, Bool.false_or, Bool.not_true, Bool.not_false, ne_eq, not_true_eq_false, not_false_eq_true, true_and, and_true, false_and, and_false, true_or, or_true, false_or, or_false, ite_true, ite_false, Bool.false_eq_true])) (d_ i_) (fun _ _ _ => trivial)
  ·
   replace hr2 := eq_of_beq hr2
   refine u_ rfl (h_ (c_ (a_ (f_ rfl) rfl (a_ (l_ k_ rfl rfl rfl j_) rfl (a_ (t_ 0 p_ rfl rfl rfl) rfl (y_ (cV_ (k := (Fc.b f)) fL_ eO_ cl_ rfl rfl hE (fun v h _ => (h.own _ (List.mem_of_getElem? (i := 1) rfl)).1)) rfl fun r13 hr13 => ?_))))))
   refine a_ (f_ rfl) rfl ?_
   cases r13
   ·
    replace hr13 := dF hr13
    refine s_ rfl rfl rfl rfl (s_ rfl rfl rfl rfl (a_ (A_ rfl rfl) rfl (a_ (g_ rfl) rfl (e_ (b_ rfl (H_ ?_))))))
    exact ap_ cY_ () (z_ rfl (by have p1 := eq_true hr1; have p2 := eq_true hr2; have p3 := eq_false hr13; simp only [cs_, dP_, p1, p2, p3, if_true, if_false, decide_true, decide_false, Bool.and_true, Bool.and_false, Bool.true_and, Bool.false_and, Bool.or_true, Bool.or_false, Bool.true_or, Bool.false_or, Bool.not_true, Bool.not_false, ne_eq, not_true_eq_false, not_false_eq_true, true_and, and_true, false_and, and_false, true_or, or_true, false_or, or_false, ite_true, ite_false, Bool.false_eq_true])) (d_ i_) (fun _ _ _ => trivial)
   ·
    replace hr13 := dT hr13
    refine r_ rfl rfl (a_ (ae_ 0 V_ B_ rfl rfl rfl) rfl (r_ rfl rfl (at_ (qN_ f) rfl J_ (fun _ _ _ => by exact trivial) rfl fun r14 hr14 => ?_)))
    refine a_ (G_ rfl rfl) rfl (a_ (g_ rfl) rfl (e_ (b_ rfl (H_ ?_))))
    exact ap_ cY_ () (z_ rfl (by have p1 := eq_true hr1; have p2 := eq_true hr2; have p3 := eq_true hr13; rw [← hr14]; simp only [cs_, p1, p2, p3, if_true, if_false, decide_true, decide_false, Bool.and_true, Bool.and_false, Bool.true_and, Bool.false_and, Bool.or_true, Bool.or_false, Bool.true_or, Bool.false_or, Bool.not_true, Bool.not_false, ne_eq, not_true_eq_false, not_false_eq_true, true_and, and_true, false_and, and_false, true_or, or_true, false_or, or_false, ite_true, ite_false, Bool.false_eq_true])) (d_ i_) (fun _ _ _ => trivial)
theorem incS_c (l : List Str) (ad : Option Addr) (cap : Nat) (hl : l.length ≤ 1000000000000) : Tri Tryz.prog 70 #[.slice ad (List.length l) cap, .func (.func 71) #[] #[]] [] [az_ ad (List.flatMap aH_ l)] (fun _ : Unit => .bool (decide (l.Pairwise (fun x y => x < y)))) (fun _ => []) (fun _ => []) := by
  refine T_ Tryz.func70 rfl rfl Tryz.ntmps70 rfl fun v0 => ?_
  refine h_ (c_ (a_ (g_ rfl) rfl (e_ (b_ rfl (h_ (h_ (c_ (a_ (g_ rfl) rfl (e_ ?_)))))))))
  refine b_ rfl (N_ ?_)
  refine aB_ (ι := {y : Nat // (l.take (y + 1)).Pairwise (fun x y => x < y)}) (fun y => [(0, .slice ad (List.length l) cap), (1, .func (.func 71) #[] #[]), (5, .int .i64 ((y.1 + 1 : Nat) : Int))]) (fun y => ([])) (fun y => [az_ ad (List.flatMap aH_ l)]) (fun y => l.length - y.1) ⟨(0 : Nat), kK_ l⟩ ⟨rfl, rfl, rfl, trivial⟩ J_ (fun _ _ h => h) ?_
  rintro ⟨k, hk⟩
  dsimp only at hk ⊢
  refine h_ (h_ (c_ (a_ (f_ rfl) rfl (a_ (f_ rfl) rfl (a_ (ar_ D_ rfl) rfl (y_ (ax_ rfl rfl) rfl fun r1 hr1 => ?_))))))
  refine e_ (b_ rfl ?_)
  cases r1
  · skip
    replace hr1 := of_decide_eq_false hr1
    refine v_ rfl (as_ rfl (b_ rfl (h_ (c_ (a_ (g_ rfl) rfl (e_ (b_ rfl (H_ ?_))))))))
    exact ap_ Tryz.results70 () (z_ rfl (by symm; apply decide_eq_true; rwa [List.take_of_length_le (by omega)] at hk)) J_ (fun _ _ _ => trivial)
  · skip
    replace hr1 := of_decide_eq_true hr1
    have hlx1 : k < List.length l := by omega
    obtain ⟨x1, hx1⟩ : ∃ e0, l[k]? = some e0 := ⟨_, List.getElem?_eq_getElem hlx1⟩
    have hmx1 : x1 ∈ l := List.mem_of_getElem? hx1
    have hlx2 : (k + 1 : Nat) < List.length l := by omega
    obtain ⟨x2, hx2⟩ : ∃ e0, l[(k + 1 : Nat)]? = some e0 := ⟨_, List.getElem?_eq_getElem hlx2⟩
    have hmx2 : x2 ∈ l := List.mem_of_getElem? hx2
    refine u_ rfl (F_ (b_ rfl (h_ (N_ (h_ ?_)))))
    refine aE_ (by kernel_rfl) ?_
    refine Z_ 2 [0, 1, 2, 3, 4, 5, 6, 7, 8, 9] (by kernel_rfl) (fun _ a b => ⟨by_ a, b⟩) (n_ rfl (f_ rfl) rfl (n_ rfl (f_ rfl) rfl (n_ rfl (f_ rfl) rfl (n_ rfl (bm_ (M_ rfl rfl rfl (aj_ (by omega) (by omega))) (show Value.int .i64 (((k + 1 : Nat) : Int) - 1) = Value.int .i64 (k : Int) from congrArg _ (by omega))) rfl (n_ rfl (ad_ D_ j_ rfl rfl (fun v _ h => av_ (n := 1) am_ (by decide) (by exact h.1) hx1) (by omega) (by first | omega | (simp; done))) rfl (n_ rfl (aG_ (ad := ad) p_ rfl (fun v _ h => by exact h.1) (ag_ am_ hx1 0 _ rfl)) rfl (n_ rfl (f_ rfl) rfl (n_ rfl (f_ rfl) rfl (n_ rfl (ad_ D_ j_ rfl rfl (fun v _ h => av_ (n := 1) am_ (by decide) (by exact h.1) hx2) (by omega) (by first | omega | (simp; done))) rfl ?_)))))))))
    refine n_ rfl (aG_ (ad := ad) p_ rfl (fun v _ h => by exact h.1) (ag_ am_ hx2 0 _ rfl)) rfl (Y_ (U_ 10 rfl (by kernel_rfl) (ba_ (hX_ x1 x2) rfl rfl J_ (fun _ _ _ => by exact trivial) rfl fun _ => ?_)))
    refine e_ (w_ rfl (O_ (fun _ a b => ⟨by_ a, b⟩) (Z_ 0 [11] (by kernel_rfl) (fun _ a b => ⟨by_ a, b⟩) ?_)))
    refine bX_ rfl (cJ_ rfl rfl) rfl fun r2 hr2 => ?_
    refine Y_ (ab_ (by kernel_rfl) (b_ rfl ?_))
    cases r2
    · skip
      replace hr2 := of_decide_eq_false hr2
      refine v_ rfl (F_ (b_ rfl (c_ (a_ (f_ rfl) rfl (a_ (M_ rfl rfl rfl (aj_ (by omega) (by omega))) rfl (a_ (g_ rfl) rfl (e_ (w_ rfl ?_))))))))
      exact aa_ ⟨k + 1, iM_ (lt := (fun x y => x < y)) List.lt_trans hk hx1 hx2 (cS_lt (x := x1) (y := x2) (by omega))⟩ (by dsimp only; omega) ⟨rfl, rfl, rfl, trivial⟩ J_ (fun _ _ h => h)
    · skip
      replace hr2 := of_decide_eq_true hr2
      refine u_ rfl (h_ (c_ (a_ (g_ rfl) rfl (e_ (b_ rfl (H_ ?_))))))
      exact ap_ Tryz.results70 () (z_ rfl (by symm; apply decide_eq_false; exact gz_ hx1 hx2 (rq_.1 (by omega)))) J_ (fun _ _ _ => trivial)
theorem incF_c (l : List Fc) (ad : Option Addr) (cap : Nat) (hl : l.length ≤ 1000000000000) : Tri Tryz.prog 72 #[.slice ad (List.length l) cap, .func (.func 61) #[] #[]] [] [az_ ad (List.flatMap Fc.cells l)] (fun _ : Unit => .bool (decide (l.Pairwise Fc.lt))) (fun _ => []) (fun _ => []) := by
  refine T_ Tryz.func72 rfl rfl Tryz.ntmps72 rfl fun v0 => ?_
  refine h_ (c_ (a_ (g_ rfl) rfl (e_ (b_ rfl (h_ (h_ (c_ (a_ (g_ rfl) rfl (e_ ?_)))))))))
  refine b_ rfl (N_ ?_)
  refine aB_ (ι := {y : Nat // (l.take (y + 1)).Pairwise Fc.lt}) (fun y => [(0, .slice ad (List.length l) cap), (1, .func (.func 61) #[] #[]), (5, .int .i64 ((y.1 + 1 : Nat) : Int))]) (fun y => ([])) (fun y => [az_ ad (List.flatMap Fc.cells l)]) (fun y => l.length - y.1) ⟨(0 : Nat), kK_ l⟩ ⟨rfl, rfl, rfl, trivial⟩ J_ (fun _ _ h => h) ?_
  rintro ⟨k, hk⟩
  dsimp only at hk ⊢
  refine h_ (h_ (c_ (a_ (f_ rfl) rfl (a_ (f_ rfl) rfl (a_ (ar_ E_ rfl) rfl (y_ (ax_ rfl rfl) rfl fun r1 hr1 => ?_))))))
  refine e_ (b_ rfl ?_)
  cases r1
  · skip
    replace hr1 := of_decide_eq_false hr1
    refine v_ rfl (as_ rfl (b_ rfl (h_ (c_ (a_ (g_ rfl) rfl (e_ (b_ rfl (H_ ?_))))))))
    exact ap_ Tryz.results72 () (z_ rfl (by symm; apply decide_eq_true; rwa [List.take_of_length_le (by omega)] at hk)) J_ (fun _ _ _ => trivial)
  · skip
    replace hr1 := of_decide_eq_true hr1
    have hlx1 : k < List.length l := by omega
    obtain ⟨x1, hx1⟩ : ∃ e0, l[k]? = some e0 := ⟨_, List.getElem?_eq_getElem hlx1⟩
    have hmx1 : x1 ∈ l := List.mem_of_getElem? hx1
    have hlx2 : (k + 1 : Nat) < List.length l := by omega
    obtain ⟨x2, hx2⟩ : ∃ e0, l[(k + 1 : Nat)]? = some e0 := ⟨_, List.getElem?_eq_getElem hlx2⟩
    have hmx2 : x2 ∈ l := List.mem_of_getElem? hx2
    refine u_ rfl (F_ (b_ rfl (h_ (N_ (h_ ?_)))))
    refine aE_ (by kernel_rfl) ?_
    refine Z_ 2 [0, 1, 2, 3, 4, 5, 6, 7, 8, 9] (by kernel_rfl) (fun _ a b => ⟨by_ a, b⟩) (n_ rfl (f_ rfl) rfl (n_ rfl (f_ rfl) rfl (n_ rfl (f_ rfl) rfl (n_ rfl (bm_ (M_ rfl rfl rfl (aj_ (by omega) (by omega))) (show Value.int .i64 (((k + 1 : Nat) : Int) - 1) = Value.int .i64 (k : Int) from congrArg _ (by omega))) rfl (n_ rfl (ad_ E_ B_ rfl rfl (fun v _ h => av_ (n := 6) Fc.cells_len (by decide) (by exact h.1) hx1) (by omega) (by first | omega | (simp; done))) rfl (n_ rfl (aJ_ (ad := ad) (us := Fc.cells x1) V_ B_ rfl (fun v _ h => by exact h.1) (Fc.cells_len _) (ag_ Fc.cells_len hx1)) rfl (n_ rfl (f_ rfl) rfl (n_ rfl (f_ rfl) rfl (n_ rfl (ad_ E_ B_ rfl rfl (fun v _ h => av_ (n := 6) Fc.cells_len (by decide) (by exact h.1) hx2) (by omega) (by first | omega | (simp; done))) rfl ?_)))))))))
    refine n_ rfl (aJ_ (ad := ad) (us := Fc.cells x2) V_ B_ rfl (fun v _ h => by exact h.1) (Fc.cells_len _) (ag_ Fc.cells_len hx2)) rfl (Y_ (U_ 10 rfl (by kernel_rfl) (ba_ (qb_ x1 x2) rfl rfl J_ (fun _ _ _ => by exact trivial) rfl fun _ => ?_)))
    refine e_ (w_ rfl (O_ (fun _ a b => ⟨by_ a, b⟩) (Z_ 0 [11] (by kernel_rfl) (fun _ a b => ⟨by_ a, b⟩) ?_)))
    refine bX_ rfl (cJ_ rfl rfl) rfl fun r2 hr2 => ?_
    refine Y_ (ab_ (by kernel_rfl) (b_ rfl ?_))
    cases r2
    · skip
      replace hr2 := of_decide_eq_false hr2
      refine v_ rfl (F_ (b_ rfl (c_ (a_ (f_ rfl) rfl (a_ (M_ rfl rfl rfl (aj_ (by omega) (by omega))) rfl (a_ (g_ rfl) rfl (e_ (w_ rfl ?_))))))))
      exact aa_ ⟨k + 1, iM_ (lt := Fc.lt) Fc.lt_trans hk hx1 hx2 (qW_ (x := x1) (y := x2) (by omega))⟩ (by dsimp only; omega) ⟨rfl, rfl, rfl, trivial⟩ J_ (fun _ _ h => h)
    · skip
      replace hr2 := of_decide_eq_true hr2
      refine u_ rfl (h_ (c_ (a_ (g_ rfl) rfl (e_ (b_ rfl (H_ ?_))))))
      exact ap_ Tryz.results72 () (z_ rfl (by symm; apply decide_eq_false; exact gz_ hx1 hx2 (nI_.1 (by omega)))) J_ (fun _ _ _ => trivial)
end Go.Proofs.YtpdbbglpbngeiaaGreatDoor
namespace Go.Proofs.YtpdbbglpbngeiaaGreatDoor
open Go Go.Sx Go.Proofs
attribute [local irreducible] Code.wp wpList wpAnyH
open Go.Vs
theorem ja_ {K : Type} [DecidableEq K] {l : List K} {i : Nat} {a : K} (hn : l.Nodup) (h : l[i]? = some a) : (if a ∈ l.take i then l.take i else l.take i ++ [a]) = l.take (i + 1) := by
  have ha : a ∉ l.take i := fun hm => by
    obtain ⟨h1, h2⟩ := List.getElem?_eq_some_iff.1 h
    obtain ⟨j, h3, h4⟩ := List.mem_take_iff_getElem.1 hm
    exact List.pairwise_iff_getElem.1 hn j i (by omega) h1 (by omega) (h4.trans h2.symm)
  rw [if_neg ha, List.take_add_one, h, Option.toList_some]
theorem jR_.nodup {l : List Str} (h : jR_ l) : l.Nodup := by
  unfold List.Nodup
  refine List.Pairwise.imp ?_ h
  intro a b hab e
  exact eq_ b (e ▸ hab)
theorem fA_ {at' : List Str} {fs : List Fc} (h : ¬ ChkC at' fs) : 1 = dj_ at' fs := by unfold dj_; rw [if_neg (fun q => h (iS_.1 q))]
theorem kY_ {at' : List Str} {fs : List Fc} (h : ChkC at' fs) (hl : ¬ 65536 < fs.length) : 0 = dj_ at' fs := by unfold dj_; rw [if_pos (iS_.2 h), if_neg hl]
theorem nJ_ {at' : List Str} {fs : List Fc} (h : ChkC at' fs) (hl : 65536 < fs.length) : 2 = dj_ at' fs := by unfold dj_; rw [if_pos (iS_.2 h), if_pos hl]
theorem rp_ (c : Cl) (ha : c.atoms.length ≤ 1000000000000) (hf : c.facts.length ≤ 1000000000000) : Tri Tryz.prog 25 #[Cl.val c] [] [az_ (Cl.aad c) (List.flatMap aH_ (Cl.atoms c)), az_ (Cl.fad c) (List.flatMap Fc.cells (Cl.facts c))] (fun _ : Unit => .int .i64 (dj_ c.atoms c.facts)) (fun _ => []) (fun _ => []) := by
 refine T_ Tryz.func25 rfl rfl Tryz.ntmps25 rfl fun v0 => ?_
 refine h_ (c_ (bh_ rfl rfl fun b1 => ?_))
 refine a_ (g_ rfl) rfl (e_ (b_ rfl (h_ (h_ (c_ (a_ (l_ aw_ rfl rfl rfl bR_) rfl (a_ (t_ 0 cI_ rfl rfl rfl) rfl (at_ (incS_c (Cl.atoms c) (Cl.aad c) (Cl.acap c) (by omega)) rfl J_ (fun v _ h => by exact ⟨h.1, trivial⟩) rfl fun r1 hr1 => ?_))))))))
 refine a_ (bN_ rfl) rfl (a_ (f_ rfl) rfl ?_)
 cases r1
 ·
  replace hr1 := of_decide_eq_false hr1
  refine s_ rfl rfl rfl rfl (s_ rfl rfl rfl rfl (s_ rfl rfl rfl rfl (s_ rfl rfl rfl rfl (a_ (G_ rfl rfl) rfl (e_ (b_ rfl (u_ rfl (h_ (c_ ?_)))))))))
  refine a_ (g_ rfl) rfl (e_ (b_ rfl (H_ ?_)))
  exact ap_ gy_ () (bA_ rfl (fA_ (fun h => by first | exact absurd h.sa (by assumption) | exact absurd h.sf (by assumption) | exact absurd h.top (by assumption) | exact absurd h.bot (by assumption) | (have := h.ok x2 hmx2; simp_all)))) J_ (fun _ _ _ => trivial)
 ·
  replace hr1 := of_decide_eq_true hr1
  have hsa : jR_ (Cl.atoms c) := hr1
  refine r_ rfl rfl (a_ (l_ aw_ rfl rfl rfl bJ_) rfl (r_ rfl rfl (a_ (t_ 0 bx_ rfl rfl rfl) rfl (r_ rfl rfl (at_ (incF_c (Cl.facts c) (Cl.fad c) (Cl.fcap c) (by omega)) rfl J_ (fun v _ h => by exact ⟨h.2.1, trivial⟩) rfl fun r2 hr2 => ?_)))))
  refine r_ rfl rfl (a_ (bN_ rfl) rfl (a_ (A_ rfl rfl) rfl (e_ (b_ rfl ?_))))
  cases r2
  ·
   replace hr2 := of_decide_eq_false hr2
   refine u_ rfl (h_ (c_ (a_ (g_ rfl) rfl (e_ (b_ rfl (H_ ?_))))))
   exact ap_ gy_ () (bA_ rfl (fA_ (fun h => by first | exact absurd h.sa (by assumption) | exact absurd h.sf (by assumption) | exact absurd h.top (by assumption) | exact absurd h.bot (by assumption) | (have := h.ok x2 hmx2; simp_all)))) J_ (fun _ _ _ => trivial)
  ·
   replace hr2 := of_decide_eq_true hr2
   refine v_ rfl (F_ (b_ rfl (h_ (c_ (dm_ rfl fun b2 => ?_)))))
   refine a_ (g_ rfl) rfl (e_ (b_ rfl (h_ (h_ (c_ (a_ (l_ aw_ rfl rfl rfl bR_) rfl (a_ (t_ 1 cI_ rfl rfl rfl) rfl (a_ (ar_ D_ rfl) rfl (a_ (f_ rfl) rfl ?_)))))))))
   refine e_ (b_ rfl (N_ ?_))
   refine aB_ (ι := {y : Nat × Array MapEntry × Nat // y.1 ≤ List.length (Cl.atoms c) ∧ SetE str y.2.1 (List.take y.1 (Cl.atoms c))}) (fun y => [(1, zp_ b1 0), (3, .map (some b2)), (20, .slice (Cl.aad c) (List.length (Cl.atoms c)) (Cl.acap c)), (21, .int .i64 (List.length (Cl.atoms c) : Int)), (22, .int .i64 (y.1.1 : Int))]) (fun y => ((b2, .map y.1.2.1 y.1.2.2) :: ((b1, .cells (Cl.cells c).toArray 28 (0, 0)) :: []))) (fun y => [az_ (Cl.aad c) (List.flatMap aH_ (Cl.atoms c)), az_ (Cl.fad c) (List.flatMap Fc.cells (Cl.facts c))]) (fun y => List.length (Cl.atoms c) - y.1.1) ⟨((0 : Nat), #[], 0), by simp, by exact SetE.nil⟩ ⟨rfl, rfl, rfl, rfl, rfl, trivial⟩ (o_ i_ i_) (fun _ _ h => h) ?_
   rintro ⟨⟨i, es, ce⟩, hi, hE⟩
   dsimp only at hi hE ⊢
   refine h_ (c_ (y_ (ax_ rfl rfl) rfl fun r3 hr3 => ?_))
   refine e_ (b_ rfl (h_ ?_))
   cases r3
   ·
    replace hr3 := of_decide_eq_false hr3
    have e9 : (List.take i (Cl.atoms c)) = Cl.atoms c := List.take_of_length_le (by omega)
    rw [e9] at hE
    refine v_ rfl (as_ rfl (b_ rfl (h_ (h_ (c_ (a_ (f_ rfl) rfl (y_ (cV_ (k := [42]) fL_ eO_ cl_ rfl rfl hE (fun v h _ => (h.own _ (List.mem_of_getElem? (i := 0) rfl)).1)) rfl fun r4 hr4 => ?_)))))))
    refine a_ (bN_ rfl) rfl (a_ (f_ rfl) rfl ?_)
    cases r4
    ·
     replace hr4 := dF hr4
     refine s_ rfl rfl rfl rfl (s_ rfl rfl rfl rfl (s_ rfl rfl rfl rfl (a_ (G_ rfl rfl) rfl (e_ (b_ rfl (u_ rfl (h_ (c_ (a_ (g_ rfl) rfl ?_)))))))))
     refine e_ (b_ rfl (H_ ?_))
     exact ap_ gy_ () (bA_ rfl (fA_ (fun h => by first | exact absurd h.sa (by assumption) | exact absurd h.sf (by assumption) | exact absurd h.top (by assumption) | exact absurd h.bot (by assumption) | (have := h.ok x2 hmx2; simp_all)))) J_ (fun _ _ _ => trivial)
    ·
     replace hr4 := dT hr4
     refine r_ rfl rfl (a_ (f_ rfl) rfl (r_ rfl rfl (y_ (cV_ (k := [33]) fL_ eO_ cl_ rfl rfl hE (fun v h _ => (h.own _ (List.mem_of_getElem? (i := 0) rfl)).1)) rfl fun r5 hr5 => ?_)))
     refine r_ rfl rfl (a_ (bN_ rfl) rfl (a_ (A_ rfl rfl) rfl (e_ (b_ rfl ?_))))
     cases r5
     ·
      replace hr5 := dF hr5
      refine u_ rfl (h_ (c_ (a_ (g_ rfl) rfl (e_ (b_ rfl (H_ ?_))))))
      exact ap_ gy_ () (bA_ rfl (fA_ (fun h => by first | exact absurd h.sa (by assumption) | exact absurd h.sf (by assumption) | exact absurd h.top (by assumption) | exact absurd h.bot (by assumption) | (have := h.ok x2 hmx2; simp_all)))) J_ (fun _ _ _ => trivial)
     ·
      replace hr5 := dT hr5
      refine v_ rfl (F_ (b_ rfl (h_ (h_ (c_ (a_ (l_ aw_ rfl rfl rfl bJ_) rfl (a_ (t_ 1 bx_ rfl rfl rfl) rfl (a_ (ar_ E_ rfl) rfl (a_ (f_ rfl) rfl ?_)))))))))
      refine e_ (b_ rfl (N_ ?_))
      refine aB_ (ι := {y : Nat // y ≤ List.length (Cl.facts c) ∧ ∀ f ∈ List.take y (Cl.facts c), cs_ (Cl.atoms c) f = true}) (fun y => [(1, zp_ b1 0), (3, .map (some b2)), (38, .slice (Cl.fad c) (List.length (Cl.facts c)) (Cl.fcap c)), (39, .int .i64 (List.length (Cl.facts c) : Int)), (40, .int .i64 (y.1 : Int))]) (fun y => ((b2, .map es ce) :: ((b1, .cells (Cl.cells c).toArray 28 (0, 0)) :: []))) (fun y => [az_ (Cl.aad c) (List.flatMap aH_ (Cl.atoms c)), az_ (Cl.fad c) (List.flatMap Fc.cells (Cl.facts c))]) (fun y => List.length (Cl.facts c) - y.1) ⟨(0 : Nat), by simp, by simp⟩ ⟨rfl, rfl, rfl, rfl, rfl, trivial⟩ (o_ i_ i_) (fun _ _ h => h) ?_
      rintro ⟨j, hj, hall⟩
      dsimp only at hj hall ⊢
      refine h_ (c_ (y_ (ax_ rfl rfl) rfl fun r6 hr6 => ?_))
      refine e_ (b_ rfl (h_ ?_))
      cases r6
      ·
       replace hr6 := of_decide_eq_false hr6
       refine v_ rfl (as_ rfl (b_ rfl (h_ (h_ (c_ (a_ (l_ aw_ rfl rfl rfl bJ_) rfl (a_ (t_ 1 bx_ rfl rfl rfl) rfl (a_ (ar_ E_ rfl) rfl (y_ (cp_ rfl rfl) rfl fun r7 hr7 => ?_)))))))))
       refine e_ (b_ rfl ?_)
       cases r7
       ·
        replace hr7 := of_decide_eq_false hr7
        refine v_ rfl (F_ (b_ rfl (h_ (c_ (a_ (g_ rfl) rfl (e_ (b_ rfl (H_ ?_))))))))
        exact ap_ gy_ () (bA_ rfl (kY_ ⟨by assumption, by assumption, by assumption, by assumption, by rwa [List.take_of_length_le (by omega)] at hall⟩ (by omega))) J_ (fun _ _ _ => trivial)
       ·
        replace hr7 := of_decide_eq_true hr7
        refine u_ rfl (h_ (c_ (a_ (g_ rfl) rfl (e_ (b_ rfl (H_ ?_))))))
        exact ap_ gy_ () (bA_ rfl (nJ_ ⟨by assumption, by assumption, by assumption, by assumption, by rwa [List.take_of_length_le (by omega)] at hall⟩ (by omega))) J_ (fun _ _ _ => trivial)
      ·
       replace hr6 := of_decide_eq_true hr6
       have hlx2 : j < List.length (Cl.facts c) := by omega
       obtain ⟨x2, hx2⟩ : ∃ e0, (Cl.facts c)[j]? = some e0 := ⟨_, List.getElem?_eq_getElem hlx2⟩
       have hmx2 : x2 ∈ (Cl.facts c) := List.mem_of_getElem? hx2
       refine u_ rfl (F_ (b_ rfl (h_ (N_ (h_ (c_ (a_ (ad_ E_ B_ rfl rfl (fun v _ h => av_ (n := 6) Fc.cells_len (by decide) (by exact h.2.1) hx2) (by omega) (by first | omega | (simp; done))) rfl (a_ (aJ_ (ad := (Cl.fad c)) (us := Fc.cells x2) V_ B_ rfl (fun v _ h => by exact h.2.1) (Fc.cells_len _) (ag_ Fc.cells_len hx2)) rfl (ay_ ah_ rfl fun b3 => ?_)))))))))
       refine af_ 0 B_ rfl rfl rfl rfl rfl rfl (e_ (b_ rfl (h_ (c_ (a_ (ae_ 0 V_ B_ rfl rfl rfl) rfl (a_ (f_ rfl) rfl (at_ (pR_ x2 (Cl.atoms c) b2 es ce hE) rfl (d_ i_) (fun _ _ _ => by exact trivial) rfl fun r8 hr8 => ?_)))))))
       refine a_ (bN_ rfl) rfl (e_ (b_ rfl ?_))
       cases r8
       ·
        refine u_ rfl (h_ (c_ (a_ (g_ rfl) rfl (e_ (b_ rfl (H_ ?_))))))
        exact ap_ gy_ () (bA_ rfl (fA_ (fun h => by first | exact absurd h.sa (by assumption) | exact absurd h.sf (by assumption) | exact absurd h.top (by assumption) | exact absurd h.bot (by assumption) | (have := h.ok x2 hmx2; simp_all)))) J_ (fun _ _ _ => trivial)
       ·
        refine v_ rfl (F_ (b_ rfl (c_ (a_ (M_ rfl rfl rfl (aj_ (by omega) (by omega))) rfl (a_ (f_ rfl) rfl (e_ (w_ rfl ?_)))))))
        exact aa_ ⟨j + 1, hlx2, fun y hy => by rw [List.take_add_one, hx2] at hy; simp only [Option.toList_some, List.mem_append, List.mem_singleton] at hy; rcases hy with hy | rfl; exact hall y hy; simp_all⟩ (by dsimp only; omega) ⟨rfl, rfl, rfl, rfl, rfl, trivial⟩ (o_ i_ (d_ i_)) (fun _ _ h => h)
   ·
    replace hr3 := of_decide_eq_true hr3
    have hlx1 : i < List.length (Cl.atoms c) := by omega
    obtain ⟨x1, hx1⟩ : ∃ e0, (Cl.atoms c)[i]? = some e0 := ⟨_, List.getElem?_eq_getElem hlx1⟩
    have hmx1 : x1 ∈ (Cl.atoms c) := List.mem_of_getElem? hx1
    refine u_ rfl (F_ (b_ rfl (h_ (N_ (h_ (c_ (a_ (ad_ D_ j_ rfl rfl (fun v _ h => av_ (n := 1) am_ (by decide) (by exact h.1) hx1) (by omega) (by first | omega | (simp; done))) rfl (a_ (aG_ (ad := (Cl.aad c)) p_ rfl (fun v _ h => by exact h.1) (ag_ am_ hx1 0 _ rfl)) rfl (a_ (g_ rfl) rfl ?_)))))))))
    refine e_ (b_ rfl (c_ (a_ (f_ rfl) rfl (a_ (f_ rfl) rfl (fG_ (k := x1) 0 fL_ (.inr rfl) eO_ rfl rfl rfl rfl hE fun ej1 cj1 hj1 => ?_)))))
    refine e_ (b_ rfl (c_ (a_ (M_ rfl rfl rfl (aj_ (by omega) (by omega))) rfl (a_ (f_ rfl) rfl (e_ (w_ rfl ?_))))))
    exact aa_ ⟨(i + 1, ej1, cj1), hlx1, (ja_ hsa.nodup hx1) ▸ hj1⟩ (by dsimp only; omega) ⟨rfl, rfl, rfl, rfl, rfl, trivial⟩ (o_ i_ i_) (fun _ _ h => h)
def qU_ (fs : List Fc) (f : Fc) : Bool := fs.any fun x => (decide (x = f) || decide (x = ak_ f.a [33])) || ((decide (f = aF_ f.a f.r f.lo f.hi) && decide (x = aF_ f.a f.r x.lo x.hi)) && (decide (f.lo ≤ x.lo) && decide (x.hi ≤ f.hi)))
def jE_ (f x : Fc) : Bool := (decide (x = f) || decide (x = ak_ f.a [33])) || ((decide (f = aF_ f.a f.r f.lo f.hi) && decide (x = aF_ f.a f.r x.lo x.hi)) && (decide (f.lo ≤ x.lo) && decide (x.hi ≤ f.hi)))
theorem any_no {α : Type} {p : α → Bool} {l : List α} {j : Nat} {x : α} (h : ∀ y ∈ l.take j, p y = false) (hx : l[j]? = some x) (hp : p x = false) : ∀ y ∈ l.take (j + 1), p y = false := fun y hy => by
  rw [List.take_add_one, hx] at hy
  simp only [Option.toList_some, List.mem_append, List.mem_singleton] at hy
  rcases hy with hy | rfl
  · exact h y hy
  · exact hp
theorem nO_ {α : Type} {p : α → Bool} {l : List α} {j : Nat} (h : ∀ y ∈ l.take j, p y = false) (hj : l.length ≤ j) : false = l.any p := by
  rw [List.take_of_length_le hj] at h
  symm; rw [List.any_eq_false]; exact fun y hy => by simp [h y hy]
theorem gR_ {α : Type} {p : α → Bool} {l : List α} {x : α} (hx : x ∈ l) (hp : p x = true) : true = l.any p := (List.any_eq_true.2 ⟨x, hx, hp⟩).symm
theorem pY_ (c : Cl) (f : Fc) (hf : c.facts.length ≤ 1000000000000) : Tri Tryz.prog 46 #[Cl.val c, Fc.val f] [] [az_ (Cl.fad c) (List.flatMap Fc.cells (Cl.facts c))] (fun _ : Unit => .bool (qU_ c.facts f)) (fun _ => []) (fun _ => []) := by
 refine T_ Tryz.func46 rfl rfl Tryz.ntmps46 rfl fun v0 => ?_
 refine h_ (c_ (bh_ rfl rfl fun b1 => ?_))
 refine bh_ rfl rfl fun b2 => ?_
 refine a_ (g_ rfl) rfl (e_ (b_ rfl (h_ (c_ (a_ (l_ k_ rfl rfl rfl j_) rfl (a_ (t_ 0 p_ rfl rfl rfl) rfl (X_ (eU_ (Fc.a f) [33]) rfl J_ (fun _ _ _ => by exact trivial) rfl fun _ => ?_)))))))
 refine ay_ ah_ rfl fun b3 => ?_
 refine af_ 0 B_ rfl rfl rfl rfl rfl rfl (e_ (b_ rfl (h_ ?_)))
 refine aE_ (by kernel_rfl) ?_
 refine Z_ 3 [0, 1, 2, 3, 4, 5, 6, 7, 8] (by kernel_rfl) (fun _ a b => ⟨a, b⟩) (n_ rfl (ae_ 1 V_ B_ rfl rfl rfl) rfl (n_ rfl (l_ k_ rfl rfl rfl j_) rfl (n_ rfl (t_ 1 p_ rfl rfl rfl) rfl (n_ rfl (l_ k_ rfl rfl rfl j_) rfl (n_ rfl (t_ 1 p_ rfl rfl rfl) rfl (n_ rfl (l_ k_ rfl rfl rfl I_) rfl (n_ rfl (t_ 1 L_ rfl rfl rfl) rfl (n_ rfl (l_ k_ rfl rfl rfl I_) rfl (n_ rfl (t_ 1 L_ rfl rfl rfl) rfl ?_)))))))))
 refine Y_ (U_ 9 rfl (by kernel_rfl) (X_ (if_ (Fc.a f) (Fc.r f) (Fc.lo f) (Fc.hi f)) rfl J_ (fun _ _ _ => by exact trivial) rfl fun _ => ?_))
 refine e_ (w_ rfl (O_ (fun _ a b => ⟨a, b⟩) (Z_ 0 [10, 11] (by kernel_rfl) (fun _ a b => ⟨a, b⟩) ?_)))
 refine bX_ rfl (dy_ (p := f) (q := (aF_ (Fc.a f) (Fc.r f) (Fc.lo f) (Fc.hi f))) rfl rfl) rfl fun r1 hr1 => ?_
 refine n_ rfl (g_ rfl) rfl (Y_ (ab_ (by kernel_rfl) (b_ rfl (h_ (h_ (c_ (a_ (l_ aw_ rfl rfl rfl bJ_) rfl (a_ (t_ 2 bx_ rfl rfl rfl) rfl (a_ (ar_ E_ rfl) rfl ?_)))))))))
 refine a_ (f_ rfl) rfl (e_ (b_ rfl (N_ ?_)))
 cases r1
 ·
  replace hr1 := of_decide_eq_false hr1
  refine aB_ (ι := {y : Nat // y ≤ List.length (Cl.facts c) ∧ ∀ z ∈ List.take y (Cl.facts c), jE_ f z = false}) (fun y => [(2, zp_ b1 0), (3, zp_ b2 0), (5, zp_ b3 0), (6, .bool false), (24, .slice (Cl.fad c) (List.length (Cl.facts c)) (Cl.fcap c)), (25, .int .i64 (List.length (Cl.facts c) : Int)), (26, .int .i64 (y.1 : Int))]) (fun y => ((b3, .cells #[.int .i64 (Fc.kind (ak_ (Fc.a f) [33])), str (Fc.a (ak_ (Fc.a f) [33])), str (Fc.b (ak_ (Fc.a f) [33])), str (Fc.r (ak_ (Fc.a f) [33])), .int .i64 (Fc.lo (ak_ (Fc.a f) [33])), .int .i64 (Fc.hi (ak_ (Fc.a f) [33]))] 41 (0, 0)) :: ((b2, .cells (Fc.cells f).toArray 41 (0, 0)) :: ((b1, .cells (Cl.cells c).toArray 28 (0, 0)) :: [])))) (fun y => [az_ (Cl.fad c) (List.flatMap Fc.cells (Cl.facts c))]) (fun y => List.length (Cl.facts c) - y.1) ⟨(0 : Nat), by simp, by simp⟩ ⟨rfl, rfl, rfl, rfl, rfl, rfl, rfl, trivial⟩ (o_ i_ (o_ i_ i_)) (fun _ _ h => h) ?_
  rintro ⟨j, hj, hall⟩
  dsimp only at hj hall ⊢
  refine h_ (c_ (y_ (ax_ rfl rfl) rfl fun r2 hr2 => ?_))
  refine e_ (b_ rfl (h_ ?_))
  cases r2
  ·
   replace hr2 := of_decide_eq_false hr2
   refine v_ rfl (as_ rfl (b_ rfl (h_ (c_ (a_ (g_ rfl) rfl (e_ (b_ rfl (H_ ?_))))))))
   exact ap_ gw_ () (z_ rfl (nO_ hall (by omega))) J_ (fun _ _ _ => trivial)
  ·
   replace hr2 := of_decide_eq_true hr2
   have hlx2 : j < List.length (Cl.facts c) := by omega
   obtain ⟨x2, hx2⟩ : ∃ e0, (Cl.facts c)[j]? = some e0 := ⟨_, List.getElem?_eq_getElem hlx2⟩
   have hmx2 : x2 ∈ (Cl.facts c) := List.mem_of_getElem? hx2
   refine u_ rfl (F_ (b_ rfl (h_ (N_ (h_ (c_ (a_ (ad_ E_ B_ rfl rfl (fun v _ h => av_ (n := 6) Fc.cells_len (by decide) (by exact h.1) hx2) (by omega) (by first | omega | (simp; done))) rfl (a_ (aJ_ (ad := (Cl.fad c)) (us := Fc.cells x2) V_ B_ rfl (fun v _ h => by exact h.1) (Fc.cells_len _) (ag_ Fc.cells_len hx2)) rfl (ay_ ah_ rfl fun b4 => ?_)))))))))
   refine af_ 0 B_ rfl rfl rfl rfl rfl rfl (e_ (b_ rfl (h_ (h_ (c_ (a_ (ae_ 0 V_ B_ rfl rfl rfl) rfl (a_ (ae_ 2 V_ B_ rfl rfl rfl) rfl (y_ (dy_ (p := x2) (q := f) rfl rfl) rfl fun r3 hr3 => ?_))))))))
   refine a_ (f_ rfl) rfl ?_
   cases r3
   ·
    replace hr3 := of_decide_eq_false hr3
    refine r_ rfl rfl (a_ (ae_ 0 V_ B_ rfl rfl rfl) rfl (r_ rfl rfl (a_ (ae_ 1 V_ B_ rfl rfl rfl) rfl (r_ rfl rfl (y_ (dy_ (p := x2) (q := (ak_ (Fc.a f) [33])) rfl rfl) rfl fun r4 hr4 => ?_)))))
    refine a_ (A_ rfl rfl) rfl (e_ (b_ rfl ?_))
    cases r4
    ·
     replace hr4 := of_decide_eq_false hr4
     refine v_ rfl (F_ (b_ rfl (h_ ?_)))
     refine aE_ (by kernel_rfl) ?_
     refine Z_ 0 [0, 1, 2, 3, 4, 5, 6, 7, 8, 9, 10, 11, 12, 13, 14, 15, 16, 17, 18, 19, 20, 21, 22, 23, 24, 25, 26, 27] (by kernel_rfl) (fun _ a b => ⟨a, b⟩) (n_ rfl (f_ rfl) rfl (n_ rfl (f_ rfl) rfl (ac_ rfl rfl rfl rfl rfl (ac_ rfl rfl rfl rfl rfl (ac_ rfl rfl rfl rfl rfl (ac_ rfl rfl rfl rfl rfl (ac_ rfl rfl rfl rfl rfl (ac_ rfl rfl rfl rfl rfl (ac_ rfl rfl rfl rfl rfl ?_)))))))))
     refine ac_ rfl rfl rfl rfl rfl (ac_ rfl rfl rfl rfl rfl (ac_ rfl rfl rfl rfl rfl (ac_ rfl rfl rfl rfl rfl (n_ rfl (A_ rfl rfl) rfl (n_ rfl (f_ rfl) rfl (ac_ rfl rfl rfl rfl rfl (ac_ rfl rfl rfl rfl rfl (ac_ rfl rfl rfl rfl rfl (ac_ rfl rfl rfl rfl rfl ?_)))))))))
     refine ac_ rfl rfl rfl rfl rfl (n_ rfl (A_ rfl rfl) rfl (n_ rfl (f_ rfl) rfl (ac_ rfl rfl rfl rfl rfl (ac_ rfl rfl rfl rfl rfl (ac_ rfl rfl rfl rfl rfl (ac_ rfl rfl rfl rfl rfl (ac_ rfl rfl rfl rfl rfl (n_ rfl (A_ rfl rfl) rfl (Y_ ?_)))))))))
     refine ab_ (by kernel_rfl) (b_ rfl (v_ rfl (F_ (b_ rfl (c_ (a_ (M_ rfl rfl rfl (aj_ (by omega) (by omega))) rfl (a_ (f_ rfl) rfl (e_ (w_ rfl ?_)))))))))
     exact aa_ ⟨j + 1, hlx2, any_no hall hx2 (by have p1 := eq_false hr1; have p2 := eq_true hr2; have p3 := eq_false hr3; have p4 := eq_false hr4; simp only [jE_, p1, p2, p3, p4, if_true, if_false, decide_true, decide_false, Bool.and_true, Bool.and_false, Bool.true_and, Bool.false_and, Bool.or_true, Bool.or_false, Bool.true_or, Bool.false_or, Bool.not_true, Bool.not_false, ne_eq, not_true_eq_false, not_false_eq_true, true_and, and_true, false_and, and_false, true_or, or_true, false_or, or_false, ite_true, ite_false, Bool.false_eq_true])⟩ (by dsimp only; omega) ⟨rfl, rfl, rfl, rfl, rfl, rfl, rfl, trivial⟩ (o_ (d_ i_) (o_ (d_ i_) (d_ i_))) (fun _ _ h => h)
    ·
     replace hr4 := of_decide_eq_true hr4
     refine u_ rfl (h_ (c_ (a_ (g_ rfl) rfl (e_ (b_ rfl (H_ ?_))))))
     exact ap_ gw_ () (z_ rfl (gR_ hmx2 (by have p1 := eq_false hr1; have p2 := eq_true hr2; have p3 := eq_false hr3; have p4 := eq_true hr4; simp only [jE_, p1, p2, p3, p4, if_true, if_false, decide_true, decide_false, Bool.and_true, Bool.and_false, Bool.true_and, Bool.false_and, Bool.or_true, Bool.or_false, Bool.true_or, Bool.false_or, Bool.not_true, Bool.not_false, ne_eq, not_true_eq_false, not_false_eq_true, true_and, and_true, false_and, and_false, true_or, or_true, false_or, or_false, ite_true, ite_false, Bool.false_eq_true]))) J_ (fun _ _ _ => trivial)
   ·
    replace hr3 := of_decide_eq_true hr3
    refine s_ rfl rfl rfl rfl (s_ rfl rfl rfl rfl (s_ rfl rfl rfl rfl (a_ (G_ rfl rfl) rfl (e_ (b_ rfl (u_ rfl (h_ (c_ (a_ (g_ rfl) rfl ?_)))))))))
    refine e_ (b_ rfl (H_ ?_))
    exact ap_ gw_ () (z_ rfl (gR_ hmx2 (by have p1 := eq_false hr1; have p2 := eq_true hr2; have p3 := eq_true hr3; simp only [jE_, p1, p2, p3, if_true, if_false, decide_true, decide_false, Bool.and_true, Bool.and_false, Bool.true_and, Bool.false_and, Bool.or_true, Bool.or_false, Bool.true_or, Bool.false_or, Bool.not_true, Bool.not_false, ne_eq, not_true_eq_false, not_false_eq_true, true_and, and_true, false_and, and_false, true_or, or_true, false_or, or_false, ite_true, ite_false, Bool.false_eq_true]))) J_ (fun _ _ _ => trivial)
 ·
  replace hr1 := of_decide_eq_true hr1
  refine aB_ (ι := {y : Nat // y ≤ List.length (Cl.facts c) ∧ ∀ z ∈ List.take y (Cl.facts c), jE_ f z = false}) (fun y => [(2, zp_ b1 0), (3, zp_ b2 0), (5, zp_ b3 0), (6, .bool true), (24, .slice (Cl.fad c) (List.length (Cl.facts c)) (Cl.fcap c)), (25, .int .i64 (List.length (Cl.facts c) : Int)), (26, .int .i64 (y.1 : Int))]) (fun y => ((b3, .cells #[.int .i64 (Fc.kind (ak_ (Fc.a f) [33])), str (Fc.a (ak_ (Fc.a f) [33])), str (Fc.b (ak_ (Fc.a f) [33])), str (Fc.r (ak_ (Fc.a f) [33])), .int .i64 (Fc.lo (ak_ (Fc.a f) [33])), .int .i64 (Fc.hi (ak_ (Fc.a f) [33]))] 41 (0, 0)) :: ((b2, .cells (Fc.cells f).toArray 41 (0, 0)) :: ((b1, .cells (Cl.cells c).toArray 28 (0, 0)) :: [])))) (fun y => [az_ (Cl.fad c) (List.flatMap Fc.cells (Cl.facts c))]) (fun y => List.length (Cl.facts c) - y.1) ⟨(0 : Nat), by simp, by simp⟩ ⟨rfl, rfl, rfl, rfl, rfl, rfl, rfl, trivial⟩ (o_ i_ (o_ i_ i_)) (fun _ _ h => h) ?_
  rintro ⟨j, hj, hall⟩
  dsimp only at hj hall ⊢
  refine h_ (c_ (y_ (ax_ rfl rfl) rfl fun r5 hr5 => ?_))
  refine e_ (b_ rfl (h_ ?_))
  cases r5
  ·
   replace hr5 := of_decide_eq_false hr5
   refine v_ rfl (as_ rfl (b_ rfl (h_ (c_ (a_ (g_ rfl) rfl (e_ (b_ rfl (H_ ?_))))))))
   exact ap_ gw_ () (z_ rfl (nO_ hall (by omega))) J_ (fun _ _ _ => trivial)
  ·
   replace hr5 := of_decide_eq_true hr5
   have hlx2 : j < List.length (Cl.facts c) := by omega
   obtain ⟨x2, hx2⟩ : ∃ e0, (Cl.facts c)[j]? = some e0 := ⟨_, List.getElem?_eq_getElem hlx2⟩
   have hmx2 : x2 ∈ (Cl.facts c) := List.mem_of_getElem? hx2
   refine u_ rfl (F_ (b_ rfl (h_ (N_ (h_ (c_ (a_ (ad_ E_ B_ rfl rfl (fun v _ h => av_ (n := 6) Fc.cells_len (by decide) (by exact h.1) hx2) (by omega) (by first | omega | (simp; done))) rfl (a_ (aJ_ (ad := (Cl.fad c)) (us := Fc.cells x2) V_ B_ rfl (fun v _ h => by exact h.1) (Fc.cells_len _) (ag_ Fc.cells_len hx2)) rfl (ay_ ah_ rfl fun b5 => ?_)))))))))
   refine af_ 0 B_ rfl rfl rfl rfl rfl rfl (e_ (b_ rfl (h_ (h_ (c_ (a_ (ae_ 0 V_ B_ rfl rfl rfl) rfl (a_ (ae_ 2 V_ B_ rfl rfl rfl) rfl (y_ (dy_ (p := x2) (q := f) rfl rfl) rfl fun r6 hr6 => ?_))))))))
   refine a_ (f_ rfl) rfl ?_
   cases r6
   ·
    replace hr6 := of_decide_eq_false hr6
    refine r_ rfl rfl (a_ (ae_ 0 V_ B_ rfl rfl rfl) rfl (r_ rfl rfl (a_ (ae_ 1 V_ B_ rfl rfl rfl) rfl (r_ rfl rfl (y_ (dy_ (p := x2) (q := (ak_ (Fc.a f) [33])) rfl rfl) rfl fun r7 hr7 => ?_)))))
    refine a_ (A_ rfl rfl) rfl (e_ (b_ rfl ?_))
    cases r7
    ·
     replace hr7 := of_decide_eq_false hr7
     refine v_ rfl (F_ (b_ rfl (h_ ?_)))
     refine aE_ (by kernel_rfl) ?_
     refine Z_ 17 [0, 1, 2, 3, 4, 5, 6, 7, 8, 9, 10] (by kernel_rfl) (fun _ a b => ⟨a, b⟩) (n_ rfl (f_ rfl) rfl (n_ rfl (f_ rfl) rfl (W_ rfl rfl rfl (ae_ 0 V_ B_ rfl rfl rfl) rfl (W_ rfl rfl rfl (l_ k_ rfl rfl rfl j_) rfl (W_ rfl rfl rfl (t_ 2 p_ rfl rfl rfl) rfl (W_ rfl rfl rfl (l_ k_ rfl rfl rfl j_) rfl (W_ rfl rfl rfl (t_ 2 p_ rfl rfl rfl) rfl (W_ rfl rfl rfl (l_ k_ rfl rfl rfl I_) rfl (W_ rfl rfl rfl (t_ 0 L_ rfl rfl rfl) rfl ?_)))))))))
     refine W_ rfl rfl rfl (l_ k_ rfl rfl rfl I_) rfl (W_ rfl rfl rfl (t_ 0 L_ rfl rfl rfl) rfl (Y_ (U_ 11 rfl (by kernel_rfl) (r_ rfl rfl (X_ (if_ (Fc.a f) (Fc.r f) (Fc.lo x2) (Fc.hi x2)) rfl J_ (fun _ _ _ => by exact trivial) rfl fun _ => ?_)))))
     refine e_ (w_ rfl (O_ (fun _ a b => ⟨a, b⟩) (Z_ 13 [12, 13, 14] (by kernel_rfl) (fun _ a b => ⟨a, b⟩) ?_)))
     refine bQ_ rfl rfl rfl (dy_ (p := x2) (q := (aF_ (Fc.a f) (Fc.r f) (Fc.lo x2) (Fc.hi x2))) rfl rfl) rfl fun r8 hr8 => ?_
     refine n_ rfl (G_ rfl rfl) rfl (n_ rfl (f_ rfl) rfl (Y_ ?_))
     cases r8
     ·
      replace hr8 := of_decide_eq_false hr8
      refine Z_ 0 [15, 16, 17, 18, 19, 20, 21, 22, 23, 24, 25, 26, 27] (by kernel_rfl) (fun _ a b => ⟨a, b⟩) (ac_ rfl rfl rfl rfl rfl (ac_ rfl rfl rfl rfl rfl (ac_ rfl rfl rfl rfl rfl (ac_ rfl rfl rfl rfl rfl (ac_ rfl rfl rfl rfl rfl (n_ rfl (A_ rfl rfl) rfl (n_ rfl (f_ rfl) rfl (ac_ rfl rfl rfl rfl rfl (ac_ rfl rfl rfl rfl rfl ?_)))))))))
      refine ac_ rfl rfl rfl rfl rfl (ac_ rfl rfl rfl rfl rfl (ac_ rfl rfl rfl rfl rfl (n_ rfl (A_ rfl rfl) rfl (Y_ (ab_ (by kernel_rfl) (b_ rfl (v_ rfl (F_ (b_ rfl ?_)))))))))
      refine c_ (a_ (M_ rfl rfl rfl (aj_ (by omega) (by omega))) rfl (a_ (f_ rfl) rfl (e_ (w_ rfl ?_))))
      exact aa_ ⟨j + 1, hlx2, any_no hall hx2 (by have p1 := eq_true hr1; have p2 := eq_true hr5; have p3 := eq_false hr6; have p4 := eq_false hr7; have p5 := eq_false hr8; simp only [jE_, p1, p2, p3, p4, p5, if_true, if_false, decide_true, decide_false, Bool.and_true, Bool.and_false, Bool.true_and, Bool.false_and, Bool.or_true, Bool.or_false, Bool.true_or, Bool.false_or, Bool.not_true, Bool.not_false, ne_eq, not_true_eq_false, not_false_eq_true, true_and, and_true, false_and, and_false, true_or, or_true, false_or, or_false, ite_true, ite_false, Bool.false_eq_true])⟩ (by dsimp only; omega) ⟨rfl, rfl, rfl, rfl, rfl, rfl, rfl, trivial⟩ (o_ (d_ i_) (o_ (d_ i_) (d_ i_))) (fun _ _ h => h)
     ·
      replace hr8 := of_decide_eq_true hr8
      refine Z_ 6 [15, 16, 17, 18, 19, 20, 21] (by kernel_rfl) (fun _ a b => ⟨a, b⟩) (W_ rfl rfl rfl (l_ k_ rfl rfl rfl I_) rfl (W_ rfl rfl rfl (t_ 0 L_ rfl rfl rfl) rfl (W_ rfl rfl rfl (l_ k_ rfl rfl rfl I_) rfl (W_ rfl rfl rfl (t_ 2 L_ rfl rfl rfl) rfl ?_))))
      refine bQ_ rfl rfl rfl (cJ_ rfl rfl) rfl fun r9 hr9 => ?_
      refine n_ rfl (G_ rfl rfl) rfl (n_ rfl (f_ rfl) rfl (Y_ ?_))
      cases r9
      ·
       replace hr9 := of_decide_eq_false hr9
       refine Z_ 0 [22, 23, 24, 25, 26, 27] (by kernel_rfl) (fun _ a b => ⟨a, b⟩) (ac_ rfl rfl rfl rfl rfl (ac_ rfl rfl rfl rfl rfl (ac_ rfl rfl rfl rfl rfl (ac_ rfl rfl rfl rfl rfl (ac_ rfl rfl rfl rfl rfl (n_ rfl (A_ rfl rfl) rfl (Y_ (ab_ (by kernel_rfl) (b_ rfl ?_)))))))))
       refine v_ rfl (F_ (b_ rfl (c_ (a_ (M_ rfl rfl rfl (aj_ (by omega) (by omega))) rfl (a_ (f_ rfl) rfl (e_ (w_ rfl ?_)))))))
       exact aa_ ⟨j + 1, hlx2, any_no hall hx2 (by have p1 := eq_true hr1; have p2 := eq_true hr5; have p3 := eq_false hr6; have p4 := eq_false hr7; have p5 := eq_true hr8; have p6 := eq_false hr9; simp only [jE_, p1, p2, p3, p4, p5, p6, if_true, if_false, decide_true, decide_false, Bool.and_true, Bool.and_false, Bool.true_and, Bool.false_and, Bool.or_true, Bool.or_false, Bool.true_or, Bool.false_or, Bool.not_true, Bool.not_false, ne_eq, not_true_eq_false, not_false_eq_true, true_and, and_true, false_and, and_false, true_or, or_true, false_or, or_false, ite_true, ite_false, Bool.false_eq_true])⟩ (by dsimp only; omega) ⟨rfl, rfl, rfl, rfl, rfl, rfl, rfl, trivial⟩ (o_ (d_ i_) (o_ (d_ i_) (d_ i_))) (fun _ _ h => h)
      ·
       replace hr9 := of_decide_eq_true hr9
       refine Z_ 0 [22, 23, 24, 25, 26, 27] (by kernel_rfl) (fun _ a b => ⟨a, b⟩) (W_ rfl rfl rfl (l_ k_ rfl rfl rfl I_) rfl (W_ rfl rfl rfl (t_ 0 L_ rfl rfl rfl) rfl (W_ rfl rfl rfl (l_ k_ rfl rfl rfl I_) rfl (W_ rfl rfl rfl (t_ 2 L_ rfl rfl rfl) rfl ?_))))
       refine bQ_ rfl rfl rfl (bM_ rfl rfl) rfl fun r10 hr10 => ?_
       refine n_ rfl (G_ rfl rfl) rfl (Y_ (ab_ (by kernel_rfl) (b_ rfl ?_)))
       cases r10
       ·
        replace hr10 := of_decide_eq_false hr10
        refine v_ rfl (F_ (b_ rfl (c_ (a_ (M_ rfl rfl rfl (aj_ (by omega) (by omega))) rfl (a_ (f_ rfl) rfl (e_ (w_ rfl ?_)))))))
        exact aa_ ⟨j + 1, hlx2, any_no hall hx2 (by have p1 := eq_true hr1; have p2 := eq_true hr5; have p3 := eq_false hr6; have p4 := eq_false hr7; have p5 := eq_true hr8; have p6 := eq_true hr9; have p7 := eq_false hr10; simp only [jE_, p1, p2, p3, p4, p5, p6, p7, if_true, if_false, decide_true, decide_false, Bool.and_true, Bool.and_false, Bool.true_and, Bool.false_and, Bool.or_true, Bool.or_false, Bool.true_or, Bool.false_or, Bool.not_true, Bool.not_false, ne_eq, not_true_eq_false, not_false_eq_true, true_and, and_true, false_and, and_false, true_or, or_true, false_or, or_false, ite_true, ite_false, Bool.false_eq_true])⟩ (by dsimp only; omega) ⟨rfl, rfl, rfl, rfl, rfl, rfl, rfl, trivial⟩ (o_ (d_ i_) (o_ (d_ i_) (d_ i_))) (fun _ _ h => h)
       ·
        replace hr10 := of_decide_eq_true hr10
        refine u_ rfl (h_ (c_ (a_ (g_ rfl) rfl (e_ (b_ rfl (H_ ?_))))))
        exact ap_ gw_ () (z_ rfl (gR_ hmx2 (by have p1 := eq_true hr1; have p2 := eq_true hr5; have p3 := eq_false hr6; have p4 := eq_false hr7; have p5 := eq_true hr8; have p6 := eq_true hr9; have p7 := eq_true hr10; simp only [jE_, p1, p2, p3, p4, p5, p6, p7, if_true, if_false, decide_true, decide_false, Bool.and_true, Bool.and_false, Bool.true_and, Bool.false_and, Bool.or_true, Bool.or_false, Bool.true_or, Bool.false_or, Bool.not_true, Bool.not_false, ne_eq, not_true_eq_false, not_false_eq_true, true_and, and_true, false_and, and_false, true_or, or_true, false_or, or_false, ite_true, ite_false, Bool.false_eq_true]))) J_ (fun _ _ _ => trivial)
    ·
     replace hr7 := of_decide_eq_true hr7
     refine u_ rfl (h_ (c_ (a_ (g_ rfl) rfl (e_ (b_ rfl (H_ ?_))))))
     exact ap_ gw_ () (z_ rfl (gR_ hmx2 (by have p1 := eq_true hr1; have p2 := eq_true hr5; have p3 := eq_false hr6; have p4 := eq_true hr7; simp only [jE_, p1, p2, p3, p4, if_true, if_false, decide_true, decide_false, Bool.and_true, Bool.and_false, Bool.true_and, Bool.false_and, Bool.or_true, Bool.or_false, Bool.true_or, Bool.false_or, Bool.not_true, Bool.not_false, ne_eq, not_true_eq_false, not_false_eq_true, true_and, and_true, false_and, and_false, true_or, or_true, false_or, or_false, ite_true, ite_false, Bool.false_eq_true]))) J_ (fun _ _ _ => trivial)
   ·
    replace hr6 := of_decide_eq_true hr6
    refine s_ rfl rfl rfl rfl (s_ rfl rfl rfl rfl (s_ rfl rfl rfl rfl (a_ (G_ rfl rfl) rfl (e_ (b_ rfl (u_ rfl (h_ (c_ (a_ (g_ rfl) rfl ?_)))))))))
    refine e_ (b_ rfl (H_ ?_))
    exact ap_ gw_ () (z_ rfl (gR_ hmx2 (by have p1 := eq_true hr1; have p2 := eq_true hr5; have p3 := eq_true hr6; simp only [jE_, p1, p2, p3, if_true, if_false, decide_true, decide_false, Bool.and_true, Bool.and_false, Bool.true_and, Bool.false_and, Bool.or_true, Bool.or_false, Bool.true_or, Bool.false_or, Bool.not_true, Bool.not_false, ne_eq, not_true_eq_false, not_false_eq_true, true_and, and_true, false_and, and_false, true_or, or_true, false_or, or_false, ite_true, ite_false, Bool.false_eq_true]))) J_ (fun _ _ _ => trivial)
end Go.Proofs.YtpdbbglpbngeiaaGreatDoor
namespace Go.Proofs.YtpdbbglpbngeiaaGreatDoor
open Go Go.Sx Go.Proofs
attribute [local irreducible] Code.wp wpList wpAnyH
open Go.Vs
theorem oR_ {P : Program} {N : Nat} {fr : Fr} {H : Hp} {Γ : List Fct} {t t' ty : TypeId} {x y : Operand} {m n : List UInt8} (hx : Fr.ev fr x = some (str m)) (hy : Fr.ev fr y = some (str n)) : Yld P N fr H Γ (.binOp .geq t x y t') ty (.bool (decide (n ≤ m))) :=
  fun a v h1 _ _ _ _ _ => by
    have e : decide (n ≤ m) = !decide (m < n) := by rw [Bool.eq_iff_iff]; simp [List.not_lt]
    rw [e, ← jJ_]; simp [execOp, h1.ev hx, h1.ev hy, str, eqGuard, binOp, Op.stringOp]
theorem jl_ : ∀ {l : List Fc} {f : Fc} {m : Nat} {x : Fc}, Srt l → l[m]? = some x → (x.lt f ↔ m < aZ_ l f)
  | [], _, _, _, _, h => by simp at h
  | y :: l, f, 0, x, hs, h => by
    simp only [List.getElem?_cons_zero, Option.some.injEq] at h
    subst h
    unfold aZ_
    rw [List.countP_cons]
    constructor
    · intro q; rw [if_pos (decide_eq_true q)]; omega
    · intro q
      apply Decidable.byContradiction
      intro hn
      rw [if_neg (by simpa using hn)] at q
      obtain ⟨z, hz, hz2⟩ := List.countP_pos_iff.1 (Nat.lt_of_lt_of_eq q (Nat.add_zero _))
      exact hn (Fc.lt_trans ((List.pairwise_cons.1 hs).1 z hz) (of_decide_eq_true hz2))
  | y :: l, f, m + 1, x, hs, h => by
    simp only [List.getElem?_cons_succ] at h
    have hs' := List.pairwise_cons.1 hs
    have ih := jl_ hs'.2 h (f := f)
    unfold aZ_ at *
    rw [List.countP_cons, ih]
    constructor
    · intro q
      have hx : x.lt f := ih.2 q
      rw [if_pos (decide_eq_true (Fc.lt_trans (hs'.1 x (List.mem_of_getElem? h)) hx))]; omega
    · intro q
      split at q <;> omega
theorem mid2 (lo hi : Nat) : Int.tdiv ((lo : Int) + (hi : Int)) 2 = (((lo + hi) / 2 : Nat) : Int) := by
  rw [Int.tdiv_eq_ediv_of_nonneg (by omega)]; omega
theorem pK_ (x y : Fc) : Fn0 Tryz.prog 75 #[Fc.val x, Fc.val y] (.bool (decide (x.lt y))) := by
 refine T_ Tryz.func75 rfl rfl Tryz.ntmps75 rfl fun v0 => ?_
 refine h_ (c_ (bh_ rfl rfl fun b1 => ?_))
 refine bh_ rfl rfl fun b2 => ?_
 refine a_ (g_ rfl) rfl (e_ (b_ rfl (h_ (N_ (h_ (c_ (a_ (l_ k_ rfl rfl rfl I_) rfl (a_ (t_ 1 L_ rfl rfl rfl) rfl (a_ (l_ k_ rfl rfl rfl I_) rfl ?_)))))))))
 refine a_ (t_ 0 L_ rfl rfl rfl) rfl (y_ (cE_ rfl rfl) rfl fun r1 hr1 => ?_)
 refine a_ (g_ rfl) rfl (e_ (b_ rfl ?_))
 cases r1
 ·
  replace hr1 := bo_ hr1
  refine v_ rfl (h_ (c_ (a_ (l_ k_ rfl rfl rfl j_) rfl (a_ (t_ 1 p_ rfl rfl rfl) rfl (a_ (l_ k_ rfl rfl rfl j_) rfl (a_ (t_ 0 p_ rfl rfl rfl) rfl (y_ (dn_ rfl rfl) rfl fun r2 hr2 => ?_)))))))
  refine a_ (g_ rfl) rfl (e_ (b_ rfl ?_))
  cases r2
  ·
   replace hr2 := bo_ hr2
   refine v_ rfl (h_ (c_ (a_ (l_ k_ rfl rfl rfl j_) rfl (a_ (t_ 1 p_ rfl rfl rfl) rfl (a_ (l_ k_ rfl rfl rfl j_) rfl (a_ (t_ 0 p_ rfl rfl rfl) rfl (y_ (dn_ rfl rfl) rfl fun r3 hr3 => ?_)))))))
   refine a_ (g_ rfl) rfl (e_ (b_ rfl ?_))
   cases r3
   ·
    replace hr3 := bo_ hr3
    refine v_ rfl (h_ (c_ (a_ (l_ k_ rfl rfl rfl j_) rfl (a_ (t_ 1 p_ rfl rfl rfl) rfl (a_ (l_ k_ rfl rfl rfl j_) rfl (a_ (t_ 0 p_ rfl rfl rfl) rfl (y_ (dn_ rfl rfl) rfl fun r4 hr4 => ?_)))))))
    refine a_ (g_ rfl) rfl (e_ (b_ rfl ?_))
    cases r4
    ·
     replace hr4 := bo_ hr4
     refine v_ rfl (h_ (c_ (a_ (l_ k_ rfl rfl rfl I_) rfl (a_ (t_ 1 L_ rfl rfl rfl) rfl (a_ (l_ k_ rfl rfl rfl I_) rfl (a_ (t_ 0 L_ rfl rfl rfl) rfl (y_ (cE_ rfl rfl) rfl fun r5 hr5 => ?_)))))))
     refine a_ (g_ rfl) rfl (e_ (b_ rfl ?_))
     cases r5
     ·
      replace hr5 := bo_ hr5
      refine v_ rfl (F_ (b_ rfl (h_ (c_ (a_ (l_ k_ rfl rfl rfl I_) rfl (a_ (t_ 1 L_ rfl rfl rfl) rfl (a_ (l_ k_ rfl rfl rfl I_) rfl (a_ (t_ 0 L_ rfl rfl rfl) rfl (y_ (ax_ rfl rfl) rfl fun r6 hr6 => ?_)))))))))
      refine a_ (g_ rfl) rfl (e_ (b_ rfl (H_ ?_)))
      exact ap_ jh_ () (z_ rfl (by rw [← hr6, decide_eq_decide]; unfold Fc.lt; simp_all [eq_])) J_ (fun _ _ _ => trivial)
     ·
      replace hr5 := bn_ hr5
      refine u_ rfl (h_ (c_ (a_ (l_ k_ rfl rfl rfl I_) rfl (a_ (t_ 1 L_ rfl rfl rfl) rfl (a_ (l_ k_ rfl rfl rfl I_) rfl (a_ (t_ 0 L_ rfl rfl rfl) rfl (y_ (ax_ rfl rfl) rfl fun r7 hr7 => ?_)))))))
      refine a_ (g_ rfl) rfl (e_ (b_ rfl (H_ ?_)))
      exact ap_ jh_ () (z_ rfl (by rw [← hr7, decide_eq_decide]; unfold Fc.lt; simp_all [eq_])) J_ (fun _ _ _ => trivial)
    ·
     replace hr4 := bn_ hr4
     refine u_ rfl (h_ (c_ (a_ (l_ k_ rfl rfl rfl j_) rfl (a_ (t_ 1 p_ rfl rfl rfl) rfl (a_ (l_ k_ rfl rfl rfl j_) rfl (a_ (t_ 0 p_ rfl rfl rfl) rfl (y_ (gs_ rfl rfl) rfl fun r8 hr8 => ?_)))))))
     refine a_ (g_ rfl) rfl (e_ (b_ rfl (H_ ?_)))
     exact ap_ jh_ () (z_ rfl (by rw [← hr8, decide_eq_decide]; unfold Fc.lt; simp_all [eq_])) J_ (fun _ _ _ => trivial)
   ·
    replace hr3 := bn_ hr3
    refine u_ rfl (h_ (c_ (a_ (l_ k_ rfl rfl rfl j_) rfl (a_ (t_ 1 p_ rfl rfl rfl) rfl (a_ (l_ k_ rfl rfl rfl j_) rfl (a_ (t_ 0 p_ rfl rfl rfl) rfl (y_ (gs_ rfl rfl) rfl fun r9 hr9 => ?_)))))))
    refine a_ (g_ rfl) rfl (e_ (b_ rfl (H_ ?_)))
    exact ap_ jh_ () (z_ rfl (by rw [← hr9, decide_eq_decide]; unfold Fc.lt; simp_all [eq_])) J_ (fun _ _ _ => trivial)
  ·
   replace hr2 := bn_ hr2
   refine u_ rfl (h_ (c_ (a_ (l_ k_ rfl rfl rfl j_) rfl (a_ (t_ 1 p_ rfl rfl rfl) rfl (a_ (l_ k_ rfl rfl rfl j_) rfl (a_ (t_ 0 p_ rfl rfl rfl) rfl (y_ (gs_ rfl rfl) rfl fun r10 hr10 => ?_)))))))
   refine a_ (g_ rfl) rfl (e_ (b_ rfl (H_ ?_)))
   exact ap_ jh_ () (z_ rfl (by rw [← hr10, decide_eq_decide]; unfold Fc.lt; simp_all [eq_])) J_ (fun _ _ _ => trivial)
 ·
  replace hr1 := bn_ hr1
  refine u_ rfl (h_ (c_ (a_ (l_ k_ rfl rfl rfl I_) rfl (a_ (t_ 1 L_ rfl rfl rfl) rfl (a_ (l_ k_ rfl rfl rfl I_) rfl (a_ (t_ 0 L_ rfl rfl rfl) rfl (y_ (ax_ rfl rfl) rfl fun r11 hr11 => ?_)))))))
  refine a_ (g_ rfl) rfl (e_ (b_ rfl (H_ ?_)))
  exact ap_ jh_ () (z_ rfl (by rw [← hr11, decide_eq_decide]; unfold Fc.lt; simp_all [eq_])) J_ (fun _ _ _ => trivial)
theorem nw_ (l : List Fc) (ad : Option Addr) (cap : Nat) (f : Fc) (hl : l.length ≤ 1000000000000) (hs : Srt l) : Tri Tryz.prog 76 #[.slice ad (List.length l) cap, Fc.val f] [] [az_ ad (List.flatMap Fc.cells l)] (fun _ : Unit => .int .i64 (aZ_ l f : Int)) (fun _ => []) (fun _ => []) := by
  refine T_ Tryz.func76 rfl rfl Tryz.ntmps76 rfl fun v0 => ?_
  refine h_ (c_ (bh_ rfl rfl fun b1 => ?_))
  refine a_ (g_ rfl) rfl (e_ (b_ rfl (h_ (c_ (a_ (g_ rfl) rfl (e_ (b_ rfl (h_ (c_ ?_)))))))))
  refine a_ (f_ rfl) rfl (a_ (ar_ E_ rfl) rfl (a_ (g_ rfl) rfl (e_ (b_ rfl (h_ (N_ ?_))))))
  refine aB_ (ι := {y : Nat × Nat // y.1 ≤ y.2 ∧ y.1 ≤ aZ_ l f ∧ aZ_ l f ≤ y.2 ∧ y.2 ≤ List.length l}) (fun y => [(0, .slice ad (List.length l) cap), (3, zp_ b1 0), (5, .int .i64 (y.1.1 : Int)), (6, .int .i64 (y.1.2 : Int))]) (fun y => ((b1, .cells (Fc.cells f).toArray 41 (0, 0)) :: [])) (fun y => [az_ ad (List.flatMap Fc.cells l)]) (fun y => y.1.2 - y.1.1) ⟨((0 : Nat), (List.length l)), Nat.zero_le _, Nat.zero_le _, cK_ l f, Nat.le_refl _⟩ ⟨rfl, rfl, rfl, rfl, trivial⟩ i_ (fun _ _ h => h) ?_
  rintro ⟨⟨lo, hi⟩, hlh, hp1, hp2, hp3⟩
  dsimp only at hlh hp1 hp2 hp3 ⊢
  refine h_ (h_ (c_ (a_ (f_ rfl) rfl (a_ (f_ rfl) rfl (y_ (ax_ rfl rfl) rfl fun r1 hr1 => ?_)))))
  refine e_ (b_ rfl ?_)
  cases r1
  · skip
    replace hr1 := of_decide_eq_false hr1
    refine v_ rfl (as_ rfl (b_ rfl (h_ (c_ (a_ (f_ rfl) rfl (a_ (g_ rfl) rfl (e_ (b_ rfl (H_ ?_)))))))))
    exact ap_ Tryz.results76 () (bA_ rfl (by omega)) J_ (fun _ _ _ => trivial)
  · skip
    replace hr1 := of_decide_eq_true hr1
    have hlx1 : ((lo + hi) / 2 : Nat) < List.length l := by omega
    obtain ⟨x1, hx1⟩ : ∃ e0, l[((lo + hi) / 2 : Nat)]? = some e0 := ⟨_, List.getElem?_eq_getElem hlx1⟩
    have hmx1 : x1 ∈ l := List.mem_of_getElem? hx1
    refine u_ rfl (F_ (b_ rfl (N_ (h_ (c_ (a_ (f_ rfl) rfl (a_ (f_ rfl) rfl (a_ (M_ rfl rfl rfl (aj_ (by omega) (by omega))) rfl (a_ (bm_ (qm_ rfl rfl (by decide) (by rw [mid2]; exact aj_ (by omega) (by omega))) (show Value.int .i64 (Int.tdiv ((lo : Int) + (hi : Int)) 2) = Value.int .i64 (((lo + hi) / 2 : Nat) : Int) from congrArg _ (mid2 lo hi))) rfl ?_)))))))))
    refine a_ (g_ rfl) rfl (e_ (b_ rfl (h_ ?_)))
    refine aE_ (by kernel_rfl) ?_
    refine Z_ 1 [0, 1, 2, 3, 4] (by kernel_rfl) (fun _ a b => ⟨a, b⟩) (n_ rfl (f_ rfl) rfl (n_ rfl (f_ rfl) rfl (n_ rfl (ad_ E_ B_ rfl rfl (fun v _ h => av_ (n := 6) Fc.cells_len (by decide) (by exact h.1) hx1) (by omega) (by first | omega | (simp; done))) rfl (n_ rfl (aJ_ (ad := ad) (us := Fc.cells x1) V_ B_ rfl (fun v _ h => by exact h.1) (Fc.cells_len _) (ag_ Fc.cells_len hx1)) rfl (n_ rfl (ae_ 0 V_ B_ rfl rfl rfl) rfl (Y_ (U_ 5 rfl (by kernel_rfl) (at_ (pK_ x1 f) rfl J_ (fun _ _ _ => by exact trivial) rfl fun r2 hr2 => ?_))))))))
    refine e_ (w_ rfl (O_ (fun _ a b => ⟨a, b⟩) (ab_ (by kernel_rfl) (b_ rfl ?_))))
    cases r2
    · skip
      replace hr2 := of_decide_eq_false hr2
      refine v_ rfl (c_ (a_ (f_ rfl) rfl (a_ (g_ rfl) rfl (e_ (w_ rfl ?_)))))
      exact aa_ ⟨(lo, ((lo + hi) / 2 : Nat)), by omega, hp1, by have := (not_congr (jl_ hs hx1 (f := f))).1 hr2; omega, by omega⟩ (by dsimp only; omega) ⟨rfl, rfl, rfl, rfl, trivial⟩ i_ (fun _ _ h => h)
    · skip
      replace hr2 := of_decide_eq_true hr2
      refine u_ rfl (c_ (a_ (f_ rfl) rfl (a_ (M_ rfl rfl rfl (aj_ (by omega) (by omega))) rfl (a_ (g_ rfl) rfl (e_ (w_ rfl ?_))))))
      exact aa_ ⟨(((lo + hi) / 2 : Nat) + 1, hi), by omega, by have := (jl_ hs hx1 (f := f)).1 hr2; omega, hp2, hp3⟩ (by dsimp only; omega) ⟨rfl, rfl, rfl, rfl, trivial⟩ i_ (fun _ _ h => h)
theorem ku_ (l : List Fc) (ad : Option Addr) (cap : Nat) (f : Fc) (hl : l.length ≤ 1000000000000) (hs : Srt l) : Tri Tryz.prog 28 #[.slice ad (List.length l) cap, Fc.val f] [] [az_ ad (List.flatMap Fc.cells l)] (fun _ : Unit => .bool (decide (f ∈ l))) (fun _ => []) (fun _ => []) := by
  refine T_ Tryz.func28 rfl rfl Tryz.ntmps28 rfl fun v0 => ?_
  refine h_ (c_ (bh_ rfl rfl fun b1 => ?_))
  refine a_ (g_ rfl) rfl (e_ (b_ rfl (h_ (c_ (a_ (f_ rfl) rfl (a_ (ae_ 0 V_ B_ rfl rfl rfl) rfl (X_ (nw_ l ad cap f (by omega) hs) rfl J_ (fun v _ h => by exact ⟨h.1, trivial⟩) rfl fun _ => ?_)))))))
  refine a_ (g_ rfl) rfl (e_ (b_ rfl (h_ ?_)))
  refine aE_ (by kernel_rfl) ?_
  refine Z_ 8 [0, 1, 2, 3, 4] (by kernel_rfl) (fun _ a b => ⟨a, b⟩) (n_ rfl (f_ rfl) rfl (n_ rfl (f_ rfl) rfl (n_ rfl (ar_ E_ rfl) rfl ?_)))
  refine bX_ rfl (ax_ rfl rfl) rfl fun r1 hr1 => ?_
  refine n_ rfl (f_ rfl) rfl (Y_ ?_)
  cases r1
  · skip
    replace hr1 := of_decide_eq_false hr1
    refine Z_ 0 [5, 6, 7, 8, 9, 10, 11, 12] (by kernel_rfl) (fun _ a b => ⟨a, b⟩) (ac_ rfl rfl rfl rfl rfl (ac_ rfl rfl rfl rfl rfl (ac_ rfl rfl rfl rfl rfl (ac_ rfl rfl rfl rfl rfl (ac_ rfl rfl rfl rfl rfl (ac_ rfl rfl rfl rfl rfl (n_ rfl (A_ rfl rfl) rfl (n_ rfl (g_ rfl) rfl (Y_ ?_)))))))))
    refine ab_ (by kernel_rfl) (b_ rfl (H_ ?_))
    exact ap_ Tryz.results28 () (z_ rfl (by symm; apply decide_eq_false; intro q; have := (List.getElem?_eq_some_iff.1 ((fQ_ hs f).1 q)).1; omega)) J_ (fun _ _ _ => trivial)
  · skip
    replace hr1 := of_decide_eq_true hr1
    have hlx1 : aZ_ l f < List.length l := by omega
    obtain ⟨x1, hx1⟩ : ∃ e0, l[aZ_ l f]? = some e0 := ⟨_, List.getElem?_eq_getElem hlx1⟩
    have hmx1 : x1 ∈ l := List.mem_of_getElem? hx1
    refine Z_ 0 [5, 6, 7, 8, 9, 10, 11, 12] (by kernel_rfl) (fun _ a b => ⟨a, b⟩) (W_ rfl rfl rfl (f_ rfl) rfl (W_ rfl rfl rfl (f_ rfl) rfl (W_ rfl rfl rfl (ad_ E_ B_ rfl rfl (fun v _ h => av_ (n := 6) Fc.cells_len (by decide) (by exact h.1) hx1) (by omega) (by first | omega | (simp; done))) rfl (W_ rfl rfl rfl (aJ_ (ad := ad) (us := Fc.cells x1) V_ B_ rfl (fun v _ h => by exact h.1) (Fc.cells_len _) (ag_ Fc.cells_len hx1)) rfl (W_ rfl rfl rfl (ae_ 0 V_ B_ rfl rfl rfl) rfl ?_)))))
    refine bQ_ rfl rfl rfl (dy_ (p := x1) (q := f) rfl rfl) rfl fun r2 hr2 => ?_
    refine n_ rfl (G_ rfl rfl) rfl (n_ rfl (g_ rfl) rfl (Y_ (ab_ (by kernel_rfl) (b_ rfl (H_ ?_)))))
    exact ap_ Tryz.results28 () (z_ rfl (by rw [← hr2, decide_eq_decide, fQ_ hs f, hx1, Option.some.injEq])) J_ (fun _ _ _ => trivial)
theorem ins_c (l : List Fc) (ad : Option Addr) (cap : Nat) (f : Fc) (hl : l.length ≤ 1000000000000) (hs : Srt l) (hc : (l.length ≤ cap ∧ cap ≤ maxLen ∧ (ad = none → cap = 0))) : Tri Tryz.prog 27 #[.slice ad (List.length l) cap, Fc.val f] [] [az_ ad (List.flatMap Fc.cells l)] (fun y : {y : Option Addr × Nat // (eS_ l f).length ≤ y.2 ∧ y.2 ≤ maxLen ∧ (y.1 = none → y.2 = 0)} => .slice y.1.1 (eS_ l f).length y.1.2) (fun _ => []) (fun y => [az_ y.1.1 ((eS_ l f).flatMap Fc.cells)]) := by
 refine T_ Tryz.func27 rfl rfl Tryz.ntmps27 rfl fun v0 => ?_
 obtain ⟨hc1, hc2, hc3⟩ := hc
 have hc := And.intro hc1 (And.intro hc2 hc3)
 have hpf := cK_ l f
 refine h_ (c_ (bh_ rfl rfl fun b1 => ?_))
 refine a_ (g_ rfl) rfl (e_ (b_ rfl (h_ (c_ (a_ (f_ rfl) rfl (a_ (ae_ 0 V_ B_ rfl rfl rfl) rfl (X_ (nw_ l ad cap f (by omega) hs) rfl J_ (fun v _ h => by exact ⟨h.1, trivial⟩) rfl fun _ => ?_)))))))
 refine a_ (g_ rfl) rfl (e_ (b_ rfl (h_ (h_ ?_))))
 refine aE_ (by kernel_rfl) ?_
 refine Z_ 7 [0, 1, 2, 3, 4] (by kernel_rfl) (fun _ a b => ⟨a, b⟩) (n_ rfl (f_ rfl) rfl (n_ rfl (f_ rfl) rfl (n_ rfl (ar_ E_ rfl) rfl ?_)))
 refine bX_ rfl (ax_ rfl rfl) rfl fun r1 hr1 => ?_
 refine n_ rfl (f_ rfl) rfl (Y_ ?_)
 cases r1
 ·
  replace hr1 := of_decide_eq_false hr1
  refine Z_ 0 [5, 6, 7, 8, 9, 10, 11] (by kernel_rfl) (fun _ a b => ⟨a, b⟩) (ac_ rfl rfl rfl rfl rfl (ac_ rfl rfl rfl rfl rfl (ac_ rfl rfl rfl rfl rfl (ac_ rfl rfl rfl rfl rfl (ac_ rfl rfl rfl rfl rfl (ac_ rfl rfl rfl rfl rfl (n_ rfl (A_ rfl rfl) rfl (Y_ (ab_ (by kernel_rfl) ?_)))))))))
  refine b_ rfl (v_ rfl (F_ (b_ rfl (h_ (c_ (dk_ E_ B_ rfl fun b2 => ?_))))))
  refine al_ i_ (a_ (f_ rfl) rfl (a_ (f_ rfl) rfl (a_ (bm_ (cA_ (i := 0) (j := (aZ_ l f)) (kl := .i64) (kh := .i64) E_ B_ rfl rfl rfl (by omega) (by have := hc1; omega)) (show _ = Value.slice (sad ad cap 0 6) (List.length (List.take (aZ_ l f) l)) (cap - 0) by rw [List.length_take, Nat.min_eq_left (by omega)]; rfl)) rfl (aM_ (news := List.flatMap Fc.cells (List.take (aZ_ l f) l)) cg_ (dX_ b2 41 6) rfl rfl (fun q => by have := hc3 (do_ q); omega) (by rw [List.length_take]; have := hc1; omega) x_ (by rw [bt_ Fc.cells 6 Fc.cells_len]) (fun v _ h => by exact (bl_.slice Fc.cells_len h.1 hc1 0 (aZ_ l f))) (fun u hu => aR_ Fc.cells_one hu) (by simp only [maxLen]; (have := cK_ l f; (try simp only [List.length_append, List.length_take, List.length_drop, List.length_cons, List.length_nil]); omega)) (by (have := cK_ l f; (try simp only [List.length_append, List.length_take, List.length_drop, List.length_cons, List.length_nil]); omega)) rfl fun sv1 Hr1 hr1 => ?_))))
  refine al_ List.perm_append_comm ?_
  have hq1 : aQ_ 41 6 sv1 (List.length (([] : List Fc) ++ (List.take (aZ_ l f) l))) (List.flatMap Fc.cells (([] : List Fc) ++ (List.take (aZ_ l f) l))) Hr1 := by rw [List.length_append, List.flatMap_append]; exact hr1
  refine a_ (g_ rfl) rfl (e_ (b_ rfl (h_ ?_)))
  refine aP_ ((b1, .cells (Fc.cells f).toArray 41 (0, 0)) :: []) (by kernel_rfl) ?_
  refine Z_ 4 [0, 1, 4, 5, 6] (by kernel_rfl) (fun _ a b => ⟨Vw.sat.sub (a.perm i_), b⟩) (n_ rfl (f_ rfl) rfl (n_ rfl (ae_ 0 V_ B_ rfl rfl rfl) rfl (n_ rfl (f_ rfl) rfl (n_ rfl (f_ rfl) rfl (n_ rfl (bm_ (cA_ (i := (aZ_ l f)) (j := List.length l) (kl := .i64) (kh := .i64) E_ B_ rfl rfl rfl (by omega) (by have := hc1; omega)) (show _ = Value.slice (sad ad cap (aZ_ l f) 6) (List.length (List.drop (aZ_ l f) l)) (cap - (aZ_ l f)) by rw [List.length_drop])) rfl (Y_ (U_ 2 rfl (by kernel_rfl) (aO_ E_ B_ ah_ rfl rfl rfl rfl rfl rfl fun b3 => ?_))))))))
  refine e_ (w_ rfl (O_ (fun _ a b => ⟨Vw.sat.sub (a.perm (d_ i_)), b⟩) (U_ 3 rfl (by kernel_rfl) (br_ (news := List.flatMap Fc.cells [f]) cg_ hq1 rfl rfl (d_ Q_) rfl (cR_ 0 rfl) (fun u hu => aR_ Fc.cells_one hu) (by simp only [maxLen]; (have := cK_ l f; (try simp only [List.length_append, List.length_take, List.length_drop, List.length_cons, List.length_nil]); omega)) (by (have := cK_ l f; (try simp only [List.length_append, List.length_take, List.length_drop, List.length_cons, List.length_nil]); omega)) rfl fun sv2 Hr2 hr2 => ?_))))
  refine al_ List.perm_append_comm ?_
  have hq2 : aQ_ 41 6 sv2 (List.length ((([] : List Fc) ++ (List.take (aZ_ l f) l)) ++ [f])) (List.flatMap Fc.cells ((([] : List Fc) ++ (List.take (aZ_ l f) l)) ++ [f])) Hr2 := by rw [List.length_append, List.flatMap_append]; exact hr2
  refine e_ (w_ rfl (O_ (fun _ a b => ⟨Vw.sat.sub (a.perm (d_ i_)), b⟩) (U_ 7 rfl (by kernel_rfl) (aM_ (news := List.flatMap Fc.cells (List.drop (aZ_ l f) l)) cg_ hq2 rfl rfl (fun q => by have := hc3 (do_ q); omega) (by rw [List.length_drop]; have := hc1; omega) (d_ Q_) (by rw [bt_ Fc.cells 6 Fc.cells_len]) (fun v _ h => by exact (bl_.rest Fc.cells_len h.1 hc1 (aZ_ l f))) (fun u hu => aR_ Fc.cells_one hu) (by simp only [maxLen]; (have := cK_ l f; (try simp only [List.length_append, List.length_take, List.length_drop, List.length_cons, List.length_nil]); omega)) (by (have := cK_ l f; (try simp only [List.length_append, List.length_take, List.length_drop, List.length_cons, List.length_nil]); omega)) rfl fun sv3 Hr3 hr3 => ?_))))
  refine al_ List.perm_append_comm ?_
  have hq3 : aQ_ 41 6 sv3 (List.length (((([] : List Fc) ++ (List.take (aZ_ l f) l)) ++ [f]) ++ (List.drop (aZ_ l f) l))) (List.flatMap Fc.cells (((([] : List Fc) ++ (List.take (aZ_ l f) l)) ++ [f]) ++ (List.drop (aZ_ l f) l))) Hr3 := by rw [List.length_append, List.flatMap_append]; exact hr3
  refine e_ (w_ rfl (O_ (fun _ a b => ⟨Vw.sat.sub (a.perm (d_ i_)), b⟩) (Z_ 0 [8] (by kernel_rfl) (fun _ a b => ⟨Vw.sat.sub (a.perm (d_ i_)), b⟩) (n_ rfl (g_ rfl) rfl (Y_ (ab_ (by kernel_rfl) (b_ rfl (H_ ?_))))))))
  have ei : eS_ l f = (([] : List Fc) ++ List.take (aZ_ l f) l ++ [f]) ++ List.drop (aZ_ l f) l := by unfold eS_; rw [if_neg (fun q => by have q2 := (fQ_ hs f).1 q; have := (List.getElem?_eq_some_iff.1 q2).1; omega)]; simp
  have h9 := hq3
  rw [show ((((([] : List Fc) ++ (List.take (aZ_ l f) l)) ++ [f]) ++ (List.drop (aZ_ l f) l)) : List Fc) = eS_ l f from by rw [ei]] at h9
  refine bw_ h9 (d_ Q_) fun ad2 cp2 had2 hcad2 hmad2 hzad2 => ?_
  exact ap_ Tryz.results27 ⟨(ad2, cp2), hcad2, hmad2, hzad2⟩ (ca_ rfl had2) J_ (fun v _ h => ⟨h.1, trivial⟩)
 ·
  replace hr1 := of_decide_eq_true hr1
  have hlx1 : aZ_ l f < List.length l := by omega
  obtain ⟨x1, hx1⟩ : ∃ e0, l[aZ_ l f]? = some e0 := ⟨_, List.getElem?_eq_getElem hlx1⟩
  have hmx1 : x1 ∈ l := List.mem_of_getElem? hx1
  refine Z_ 0 [5, 6, 7, 8, 9, 10, 11] (by kernel_rfl) (fun _ a b => ⟨a, b⟩) (W_ rfl rfl rfl (f_ rfl) rfl (W_ rfl rfl rfl (f_ rfl) rfl (W_ rfl rfl rfl (ad_ E_ B_ rfl rfl (fun v _ h => av_ (n := 6) Fc.cells_len (by decide) (by exact h.1) hx1) (by omega) (by first | omega | (simp; done))) rfl (W_ rfl rfl rfl (aJ_ (ad := ad) (us := Fc.cells x1) V_ B_ rfl (fun v _ h => by exact h.1) (Fc.cells_len _) (ag_ Fc.cells_len hx1)) rfl (W_ rfl rfl rfl (ae_ 0 V_ B_ rfl rfl rfl) rfl ?_)))))
  refine bQ_ rfl rfl rfl (dy_ (p := x1) (q := f) rfl rfl) rfl fun r2 hr2 => ?_
  refine n_ rfl (G_ rfl rfl) rfl (Y_ (ab_ (by kernel_rfl) (b_ rfl ?_)))
  cases r2
  ·
   replace hr2 := of_decide_eq_false hr2
   refine v_ rfl (F_ (b_ rfl (h_ (c_ (dk_ E_ B_ rfl fun b4 => ?_)))))
   refine al_ i_ (a_ (f_ rfl) rfl (a_ (f_ rfl) rfl (a_ (bm_ (cA_ (i := 0) (j := (aZ_ l f)) (kl := .i64) (kh := .i64) E_ B_ rfl rfl rfl (by omega) (by have := hc1; omega)) (show _ = Value.slice (sad ad cap 0 6) (List.length (List.take (aZ_ l f) l)) (cap - 0) by rw [List.length_take, Nat.min_eq_left (by omega)]; rfl)) rfl (aM_ (news := List.flatMap Fc.cells (List.take (aZ_ l f) l)) cg_ (dX_ b4 41 6) rfl rfl (fun q => by have := hc3 (do_ q); omega) (by rw [List.length_take]; have := hc1; omega) x_ (by rw [bt_ Fc.cells 6 Fc.cells_len]) (fun v _ h => by exact (bl_.slice Fc.cells_len h.1 hc1 0 (aZ_ l f))) (fun u hu => aR_ Fc.cells_one hu) (by simp only [maxLen]; (have := cK_ l f; (try simp only [List.length_append, List.length_take, List.length_drop, List.length_cons, List.length_nil]); omega)) (by (have := cK_ l f; (try simp only [List.length_append, List.length_take, List.length_drop, List.length_cons, List.length_nil]); omega)) rfl fun sv4 Hr4 hr4 => ?_))))
   refine al_ List.perm_append_comm ?_
   have hq4 : aQ_ 41 6 sv4 (List.length (([] : List Fc) ++ (List.take (aZ_ l f) l))) (List.flatMap Fc.cells (([] : List Fc) ++ (List.take (aZ_ l f) l))) Hr4 := by rw [List.length_append, List.flatMap_append]; exact hr4
   refine a_ (g_ rfl) rfl (e_ (b_ rfl (h_ ?_)))
   refine aP_ ((b1, .cells (Fc.cells f).toArray 41 (0, 0)) :: []) (by kernel_rfl) ?_
   refine Z_ 4 [0, 1, 4, 5, 6] (by kernel_rfl) (fun _ a b => ⟨Vw.sat.sub (a.perm i_), b⟩) (n_ rfl (f_ rfl) rfl (n_ rfl (ae_ 0 V_ B_ rfl rfl rfl) rfl (n_ rfl (f_ rfl) rfl (n_ rfl (f_ rfl) rfl (n_ rfl (bm_ (cA_ (i := (aZ_ l f)) (j := List.length l) (kl := .i64) (kh := .i64) E_ B_ rfl rfl rfl (by omega) (by have := hc1; omega)) (show _ = Value.slice (sad ad cap (aZ_ l f) 6) (List.length (List.drop (aZ_ l f) l)) (cap - (aZ_ l f)) by rw [List.length_drop])) rfl (Y_ (U_ 2 rfl (by kernel_rfl) (aO_ E_ B_ ah_ rfl rfl rfl rfl rfl rfl fun b5 => ?_))))))))
   refine e_ (w_ rfl (O_ (fun _ a b => ⟨Vw.sat.sub (a.perm (d_ i_)), b⟩) (U_ 3 rfl (by kernel_rfl) (br_ (news := List.flatMap Fc.cells [f]) cg_ hq4 rfl rfl (d_ Q_) rfl (cR_ 0 rfl) (fun u hu => aR_ Fc.cells_one hu) (by simp only [maxLen]; (have := cK_ l f; (try simp only [List.length_append, List.length_take, List.length_drop, List.length_cons, List.length_nil]); omega)) (by (have := cK_ l f; (try simp only [List.length_append, List.length_take, List.length_drop, List.length_cons, List.length_nil]); omega)) rfl fun sv5 Hr5 hr5 => ?_))))
   refine al_ List.perm_append_comm ?_
   have hq5 : aQ_ 41 6 sv5 (List.length ((([] : List Fc) ++ (List.take (aZ_ l f) l)) ++ [f])) (List.flatMap Fc.cells ((([] : List Fc) ++ (List.take (aZ_ l f) l)) ++ [f])) Hr5 := by rw [List.length_append, List.flatMap_append]; exact hr5
   refine e_ (w_ rfl (O_ (fun _ a b => ⟨Vw.sat.sub (a.perm (d_ i_)), b⟩) (U_ 7 rfl (by kernel_rfl) (aM_ (news := List.flatMap Fc.cells (List.drop (aZ_ l f) l)) cg_ hq5 rfl rfl (fun q => by have := hc3 (do_ q); omega) (by rw [List.length_drop]; have := hc1; omega) (d_ Q_) (by rw [bt_ Fc.cells 6 Fc.cells_len]) (fun v _ h => by exact (bl_.rest Fc.cells_len h.1 hc1 (aZ_ l f))) (fun u hu => aR_ Fc.cells_one hu) (by simp only [maxLen]; (have := cK_ l f; (try simp only [List.length_append, List.length_take, List.length_drop, List.length_cons, List.length_nil]); omega)) (by (have := cK_ l f; (try simp only [List.length_append, List.length_take, List.length_drop, List.length_cons, List.length_nil]); omega)) rfl fun sv6 Hr6 hr6 => ?_))))
   refine al_ List.perm_append_comm ?_
   have hq6 : aQ_ 41 6 sv6 (List.length (((([] : List Fc) ++ (List.take (aZ_ l f) l)) ++ [f]) ++ (List.drop (aZ_ l f) l))) (List.flatMap Fc.cells (((([] : List Fc) ++ (List.take (aZ_ l f) l)) ++ [f]) ++ (List.drop (aZ_ l f) l))) Hr6 := by rw [List.length_append, List.flatMap_append]; exact hr6
   refine e_ (w_ rfl (O_ (fun _ a b => ⟨Vw.sat.sub (a.perm (d_ i_)), b⟩) (Z_ 0 [8] (by kernel_rfl) (fun _ a b => ⟨Vw.sat.sub (a.perm (d_ i_)), b⟩) (n_ rfl (g_ rfl) rfl (Y_ (ab_ (by kernel_rfl) (b_ rfl (H_ ?_))))))))
   have ei : eS_ l f = (([] : List Fc) ++ List.take (aZ_ l f) l ++ [f]) ++ List.drop (aZ_ l f) l := by unfold eS_; rw [if_neg (fun q => by have q2 := (fQ_ hs f).1 q; rw [hx1] at q2; simp_all)]; simp
   have h9 := hq6
   rw [show ((((([] : List Fc) ++ (List.take (aZ_ l f) l)) ++ [f]) ++ (List.drop (aZ_ l f) l)) : List Fc) = eS_ l f from by rw [ei]] at h9
   refine bw_ h9 (d_ Q_) fun ad2 cp2 had2 hcad2 hmad2 hzad2 => ?_
   exact ap_ Tryz.results27 ⟨(ad2, cp2), hcad2, hmad2, hzad2⟩ (ca_ rfl had2) J_ (fun v _ h => ⟨h.1, trivial⟩)
  ·
   replace hr2 := of_decide_eq_true hr2
   refine u_ rfl (h_ (c_ (a_ (f_ rfl) rfl (a_ (g_ rfl) rfl (e_ (b_ rfl (H_ ?_)))))))
   have hxe : x1 = f := by assumption
   have ei : eS_ l f = l := by unfold eS_; rw [if_pos ((fQ_ hs f).2 (hxe ▸ hx1))]
   exact ap_ Tryz.results27 ⟨(ad, cap), by rw [ei]; exact hc⟩ (ca_ rfl (by dsimp only; rw [ei])) J_ (fun v _ h => ⟨by show bl_ v ad ((eS_ l f).flatMap Fc.cells); rw [ei]; exact h.1, trivial⟩)
end Go.Proofs.YtpdbbglpbngeiaaGreatDoor
namespace Go.Proofs.YtpdbbglpbngeiaaGreatDoor
open Go Go.Sx Go.Proofs
attribute [local irreducible] Code.wp wpList wpAnyH
open Go.Vs
theorem dH_ (a b : Str) : Fn0 Tryz.prog 47 #[str a, str b] (Fc.val (ak_ a b)) := by
  refine T_ Tryz.func47 rfl rfl Tryz.ntmps47 rfl fun v0 => ?_
  refine h_ (c_ (ay_ ah_ rfl fun b1 => ?_))
  refine e_ (b_ rfl (h_ (c_ (a_ (f_ rfl) rfl (a_ (f_ rfl) rfl (a_ (aL_ ie_ rfl rfl) rfl (af_ 0 B_ rfl rfl rfl rfl rfl rfl (e_ (b_ rfl ?_)))))))))
  refine H_ ?_
  exact gb_ () (fun aa v h1 h2 => ey_ (us := Fc.cells (ak_ a b)) 0 Tryz.results47 V_ B_ rfl rfl rfl aa v h1 h2) J_ (fun _ _ _ => trivial)
theorem er_ (a r b : Str) : Fn0 Tryz.prog 51 #[str a, str r, str b] (Fc.val (au_ a r b)) := by
  refine T_ Tryz.func51 rfl rfl Tryz.ntmps51 rfl fun v0 => ?_
  refine h_ (c_ (ay_ ah_ rfl fun b1 => ?_))
  refine e_ (b_ rfl (h_ (c_ (a_ (f_ rfl) rfl (a_ (f_ rfl) rfl (a_ (f_ rfl) rfl (a_ (aL_ ie_ rfl rfl) rfl (af_ 0 B_ rfl rfl rfl rfl rfl rfl (e_ ?_)))))))))
  refine b_ rfl (H_ ?_)
  exact gb_ () (fun aa v h1 h2 => ey_ (us := Fc.cells (au_ a r b)) 0 Tryz.results51 V_ B_ rfl rfl rfl aa v h1 h2) J_ (fun _ _ _ => trivial)
theorem nn_ (a r : Str) (lo hi : Int) : Fn0 Tryz.prog 52 #[str a, str r, .int .i64 lo, .int .i64 hi] (Fc.val (aF_ a r lo hi)) := by
  refine T_ Tryz.func52 rfl rfl Tryz.ntmps52 rfl fun v0 => ?_
  refine h_ (c_ (ay_ ah_ rfl fun b1 => ?_))
  refine e_ (b_ rfl (h_ (c_ (a_ (f_ rfl) rfl (a_ (f_ rfl) rfl (a_ (f_ rfl) rfl (a_ (f_ rfl) rfl (a_ (aL_ ie_ rfl rfl) rfl (af_ 0 B_ rfl rfl rfl rfl rfl rfl ?_)))))))))
  refine e_ (b_ rfl (H_ ?_))
  exact gb_ () (fun aa v h1 h2 => ey_ (us := Fc.cells (aF_ a r lo hi)) 0 Tryz.results52 V_ B_ rfl rfl rfl aa v h1 h2) J_ (fun _ _ _ => trivial)
theorem hP_ (l : List Str) (ad : Option Addr) (cap : Nat) (x : Str) (hl : l.length ≤ 1000000000000) : Tri Tryz.prog 45 #[.slice ad (List.length l) cap, str x] [] [az_ ad (List.flatMap aH_ l)] (fun _ : Unit => .bool (decide (x ∈ l))) (fun _ => []) (fun _ => []) := by
  refine T_ Tryz.func45 rfl rfl Tryz.ntmps45 rfl fun v0 => ?_
  refine h_ (c_ (a_ (g_ rfl) rfl (e_ (b_ rfl (h_ (h_ (c_ (a_ (g_ rfl) rfl (e_ ?_)))))))))
  refine b_ rfl (N_ ?_)
  refine aB_ (ι := {y : Nat // y ≤ l.length ∧ x ∉ l.take y}) (fun y => [(0, .slice ad (List.length l) cap), (1, str x), (5, .int .i64 (y.1 : Int))]) (fun y => ([])) (fun y => [az_ ad (List.flatMap aH_ l)]) (fun y => l.length - y.1) ⟨(0 : Nat), by simp, by simp⟩ ⟨rfl, rfl, rfl, trivial⟩ J_ (fun _ _ h => h) ?_
  rintro ⟨i, hi, hn⟩
  dsimp only at hi hn ⊢
  refine h_ (h_ (c_ (a_ (f_ rfl) rfl (a_ (f_ rfl) rfl (a_ (ar_ D_ rfl) rfl (y_ (ax_ rfl rfl) rfl fun r1 hr1 => ?_))))))
  refine e_ (b_ rfl ?_)
  cases r1
  · skip
    replace hr1 := of_decide_eq_false hr1
    refine v_ rfl (as_ rfl (b_ rfl (h_ (c_ (a_ (g_ rfl) rfl (e_ (b_ rfl (H_ ?_))))))))
    exact ap_ Tryz.results45 () (z_ rfl (by symm; apply decide_eq_false; rwa [List.take_of_length_le (by omega)] at hn)) J_ (fun _ _ _ => trivial)
  · skip
    replace hr1 := of_decide_eq_true hr1
    have hlx1 : i < List.length l := by omega
    obtain ⟨x1, hx1⟩ : ∃ e0, l[i]? = some e0 := ⟨_, List.getElem?_eq_getElem hlx1⟩
    have hmx1 : x1 ∈ l := List.mem_of_getElem? hx1
    refine u_ rfl (F_ (b_ rfl (h_ (N_ (h_ (c_ (a_ (f_ rfl) rfl (a_ (f_ rfl) rfl (a_ (ad_ D_ j_ rfl rfl (fun v _ h => av_ (n := 1) am_ (by decide) (by exact h.1) hx1) (by omega) (by first | omega | (simp; done))) rfl ?_)))))))))
    refine a_ (aG_ (ad := ad) p_ rfl (fun v _ h => by exact h.1) (ag_ am_ hx1 0 _ rfl)) rfl (a_ (f_ rfl) rfl (y_ (ao_ rfl rfl) rfl fun r2 hr2 => ?_))
    refine e_ (b_ rfl ?_)
    cases r2
    · skip
      replace hr2 := ne_of_beq_false hr2
      refine v_ rfl (F_ (b_ rfl (c_ (a_ (f_ rfl) rfl (a_ (M_ rfl rfl rfl (aj_ (by omega) (by omega))) rfl (a_ (g_ rfl) rfl (e_ (w_ rfl ?_))))))))
      exact aa_ ⟨i + 1, hlx1, fun q => by rw [List.take_add_one, hx1] at q; simp only [Option.toList_some, List.mem_append, List.mem_singleton] at q; rcases q with q | rfl; exact hn q; simp_all⟩ (by dsimp only; omega) ⟨rfl, rfl, rfl, trivial⟩ J_ (fun _ _ h => h)
    · skip
      replace hr2 := eq_of_beq hr2
      refine u_ rfl (h_ (c_ (a_ (g_ rfl) rfl (e_ (b_ rfl (H_ ?_))))))
      exact ap_ Tryz.results45 () (z_ rfl (by symm; apply decide_eq_true; have := hmx1; simp_all)) J_ (fun _ _ _ => trivial)
theorem qt_ (l m : List Fc) (ad ae : Option Addr) (cap cpe : Nat) (hl : l.length ≤ 1000000000000) (hm : m.length ≤ 1000000000000) : Tri Tryz.prog 24 #[.slice ad (List.length l) cap, .slice ae (List.length m) cpe] [] [az_ ad (List.flatMap Fc.cells l), az_ ae (List.flatMap Fc.cells m)] (fun _ : Unit => .bool (decide (l = m))) (fun _ => []) (fun _ => []) := by
 refine T_ Tryz.func24 rfl rfl Tryz.ntmps24 rfl fun v0 => ?_
 refine h_ (c_ (a_ (g_ rfl) rfl (e_ (b_ rfl (h_ (h_ (c_ (a_ (f_ rfl) rfl (a_ (ar_ E_ rfl) rfl ?_)))))))))
 refine a_ (f_ rfl) rfl (a_ (ar_ E_ rfl) rfl (y_ (cE_ rfl rfl) rfl fun r1 hr1 => ?_))
 refine e_ (b_ rfl ?_)
 cases r1
 ·
  replace hr1 := bo_ hr1
  refine v_ rfl (F_ (b_ rfl (h_ (h_ (c_ (a_ (g_ rfl) rfl (e_ (b_ rfl (N_ ?_)))))))))
  refine aB_ (ι := {y : Nat // y ≤ l.length ∧ l.take y = m.take y}) (fun y => [(0, .slice ad (List.length l) cap), (1, .slice ae (List.length m) cpe), (5, .int .i64 (y.1 : Int))]) (fun y => ([])) (fun y => [az_ ad (List.flatMap Fc.cells l), az_ ae (List.flatMap Fc.cells m)]) (fun y => l.length - y.1) ⟨(0 : Nat), by simp, by simp⟩ ⟨rfl, rfl, rfl, trivial⟩ J_ (fun _ _ h => h) ?_
  rintro ⟨i, hi, he⟩
  dsimp only at hi he ⊢
  have hlm : l.length = m.length := by omega
  refine h_ (h_ (c_ (a_ (f_ rfl) rfl (a_ (f_ rfl) rfl (a_ (ar_ E_ rfl) rfl (y_ (ax_ rfl rfl) rfl fun r2 hr2 => ?_))))))
  refine e_ (b_ rfl ?_)
  cases r2
  ·
   replace hr2 := of_decide_eq_false hr2
   refine v_ rfl (as_ rfl (b_ rfl (h_ (c_ (a_ (g_ rfl) rfl (e_ (b_ rfl (H_ ?_))))))))
   exact ap_ Tryz.results24 () (z_ rfl (by symm; apply decide_eq_true; rwa [List.take_of_length_le (by omega), List.take_of_length_le (by omega)] at he)) J_ (fun _ _ _ => trivial)
  ·
   replace hr2 := of_decide_eq_true hr2
   have hlx1 : i < List.length l := by omega
   obtain ⟨x1, hx1⟩ : ∃ e0, l[i]? = some e0 := ⟨_, List.getElem?_eq_getElem hlx1⟩
   have hmx1 : x1 ∈ l := List.mem_of_getElem? hx1
   have hlx2 : i < List.length m := by omega
   obtain ⟨x2, hx2⟩ : ∃ e0, m[i]? = some e0 := ⟨_, List.getElem?_eq_getElem hlx2⟩
   have hmx2 : x2 ∈ m := List.mem_of_getElem? hx2
   refine u_ rfl (F_ (b_ rfl (h_ (N_ (h_ ?_)))))
   refine aE_ (by kernel_rfl) ?_
   refine Z_ 0 [0, 1, 2, 3, 4, 5, 6, 7, 8] (by kernel_rfl) (fun _ a b => ⟨by_ a, b⟩) (n_ rfl (f_ rfl) rfl (n_ rfl (f_ rfl) rfl (n_ rfl (ad_ E_ B_ rfl rfl (fun v _ h => av_ (n := 6) Fc.cells_len (by decide) (by exact h.1) hx1) (by omega) (by first | omega | (simp; done))) rfl (n_ rfl (aJ_ (ad := ad) (us := Fc.cells x1) V_ B_ rfl (fun v _ h => by exact h.1) (Fc.cells_len _) (ag_ Fc.cells_len hx1)) rfl (n_ rfl (f_ rfl) rfl (n_ rfl (f_ rfl) rfl (n_ rfl (ad_ E_ B_ rfl rfl (fun v _ h => av_ (n := 6) Fc.cells_len (by decide) (by exact h.2.1) hx2) (by omega) (by first | omega | (simp; done))) rfl (n_ rfl (aJ_ (ad := ae) (us := Fc.cells x2) V_ B_ rfl (fun v _ h => by exact h.2.1) (Fc.cells_len _) (ag_ Fc.cells_len hx2)) rfl ?_))))))))
   refine bX_ rfl (fB_ (p := x1) (q := x2) rfl rfl) rfl fun r3 hr3 => ?_
   refine Y_ (ab_ (by kernel_rfl) (b_ rfl ?_))
   cases r3
   ·
    replace hr3 := of_decide_eq_false hr3
    refine v_ rfl (F_ (b_ rfl (c_ (a_ (f_ rfl) rfl (a_ (M_ rfl rfl rfl (aj_ (by omega) (by omega))) rfl (a_ (g_ rfl) rfl (e_ (w_ rfl ?_))))))))
    exact aa_ ⟨i + 1, hlx1, by rw [List.take_add_one, hx1, List.take_add_one, hx2, he]; simp_all⟩ (by dsimp only; omega) ⟨rfl, rfl, rfl, trivial⟩ J_ (fun _ _ h => h)
   ·
    replace hr3 := of_decide_eq_true hr3
    refine u_ rfl (h_ (c_ (a_ (g_ rfl) rfl (e_ (b_ rfl (H_ ?_))))))
    exact ap_ Tryz.results24 () (z_ rfl (by symm; apply decide_eq_false; intro e; subst e; rw [hx1] at hx2; simp_all)) J_ (fun _ _ _ => trivial)
 ·
  replace hr1 := bn_ hr1
  refine u_ rfl (h_ (c_ (a_ (g_ rfl) rfl (e_ (b_ rfl (H_ ?_))))))
  exact ap_ Tryz.results24 () (z_ rfl (by symm; apply decide_eq_false; intro e; subst e; omega)) J_ (fun _ _ _ => trivial)
def dG_ (A : List Str) (f : Fc) : Bool :=
  if f.kind = 1 then (((decide (f.a ∈ A) && decide (f.b ∈ A)) && decide (f.r = [])) && decide (f.lo = 0)) && decide (f.hi = 0)
  else if f.kind = 2 then (((decide (f.a ∈ A) && decide (f.b ∈ A)) && decide (f.r ≠ [])) && decide (f.lo = 0)) && decide (f.hi = 0)
  else if f.kind = 3 then ((((decide (f.a ∈ A) && decide (f.b = [])) && decide (f.r ≠ [])) && decide (f.lo ≤ f.hi)) && decide (-1099511627776 ≤ f.lo)) && decide (f.hi ≤ 1099511627776)
  else false
theorem cu_ (A : List Str) (f : Fc) : dG_ A f = cs_ A f := by
  rw [Bool.eq_iff_iff]
  obtain ⟨k, a, b, r, lo, hi⟩ := f
  unfold dG_ cs_ dP_ ak_ au_ aF_
  dsimp only
  split
  · subst k
    simp
    constructor
    · rintro ⟨⟨⟨⟨h1, h2⟩, h3⟩, h4⟩, h5⟩; exact ⟨h1, h2, h3, h4, h5⟩
    · rintro ⟨h1, h2, h3, h4, h5⟩; exact ⟨⟨⟨⟨h1, h2⟩, h3⟩, h4⟩, h5⟩
  · split
    · subst k
      simp
      constructor
      · rintro ⟨⟨⟨⟨h1, h2⟩, h3⟩, h4⟩, h5⟩; exact ⟨h1, h2, h3, h4, h5⟩
      · rintro ⟨h1, h2, h3, h4, h5⟩; exact ⟨⟨⟨⟨h1, h2⟩, h3⟩, h4⟩, h5⟩
    · split
      · subst k
        simp
        constructor
        · rintro ⟨⟨⟨⟨⟨h1, h2⟩, h3⟩, h4⟩, h5⟩, h6⟩; exact ⟨h1, h3, h2, h5, h4, h6⟩
        · rintro ⟨h1, h3, h2, h5, h4, h6⟩; exact ⟨⟨⟨⟨⟨h1, h2⟩, h3⟩, h4⟩, h5⟩, h6⟩
      · simp
theorem pe_ (f : Fc) (l : List Str) (ad : Option Addr) (cap : Nat) (hl : l.length ≤ 1000000000000) : Tri Tryz.prog 74 #[Fc.val f, .slice ad (List.length l) cap] [] [az_ ad (List.flatMap aH_ l)] (fun _ : Unit => .bool (cs_ l f)) (fun _ => []) (fun _ => []) := by
 refine T_ Tryz.func74 rfl rfl Tryz.ntmps74 rfl fun v0 => ?_
 refine h_ (c_ (bh_ rfl rfl fun b1 => ?_))
 refine a_ (g_ rfl) rfl (e_ (b_ rfl (h_ (c_ (a_ (f_ rfl) rfl (a_ (l_ k_ rfl rfl rfl j_) rfl (a_ (t_ 0 p_ rfl rfl rfl) rfl (at_ (hP_ l ad cap (Fc.a f) (by omega)) rfl J_ (fun v _ h => by exact ⟨h.1, trivial⟩) rfl fun r1 hr1 => ?_))))))))
 refine a_ (g_ rfl) rfl (e_ (b_ rfl (h_ (c_ (a_ (f_ rfl) rfl (a_ (l_ k_ rfl rfl rfl j_) rfl (a_ (t_ 0 p_ rfl rfl rfl) rfl (at_ (hP_ l ad cap (Fc.b f) (by omega)) rfl J_ (fun v _ h => by exact ⟨h.1, trivial⟩) rfl fun r2 hr2 => ?_))))))))
 refine a_ (g_ rfl) rfl (e_ (b_ rfl (h_ (h_ (c_ (a_ (l_ k_ rfl rfl rfl I_) rfl (a_ (t_ 0 L_ rfl rfl rfl) rfl (e_ (b_ rfl ?_)))))))))
 refine N_ (h_ (c_ (y_ (aD_ rfl rfl) rfl fun r3 hr3 => ?_)))
 refine a_ (g_ rfl) rfl (e_ (b_ rfl ?_))
 cases r3
 ·
  replace hr3 := ne_of_beq_false hr3
  refine v_ rfl (h_ (c_ (y_ (aD_ rfl rfl) rfl fun r4 hr4 => ?_)))
  refine a_ (g_ rfl) rfl (e_ (b_ rfl ?_))
  cases r4
  ·
   replace hr4 := ne_of_beq_false hr4
   refine v_ rfl (h_ (c_ (y_ (aD_ rfl rfl) rfl fun r5 hr5 => ?_)))
   refine a_ (g_ rfl) rfl (e_ (b_ rfl ?_))
   cases r5
   ·
    replace hr5 := ne_of_beq_false hr5
    refine v_ rfl (F_ (b_ rfl (h_ (c_ (a_ (g_ rfl) rfl (e_ (b_ rfl (H_ ?_))))))))
    exact ap_ bV_ () (z_ rfl (by rw [← cu_]; have p1 := eq_false hr3; have p2 := eq_false hr4; have p3 := eq_false hr5; simp only [dG_, p1, p2, p3, if_true, if_false, decide_true, decide_false, Bool.and_true, Bool.and_false, Bool.true_and, Bool.false_and, Bool.or_true, Bool.or_false, Bool.true_or, Bool.false_or, Bool.not_true, Bool.not_false, ne_eq, not_true_eq_false, not_false_eq_true, true_and, and_true, false_and, and_false, true_or, or_true, false_or, or_false, ite_true, ite_false, Bool.false_eq_true]; (try rfl))) J_ (fun _ _ _ => trivial)
   ·
    replace hr5 := eq_of_beq hr5
    refine u_ rfl (h_ (c_ (a_ (f_ rfl) rfl (a_ (f_ rfl) rfl ?_))))
    cases r1
    ·
     replace hr1 := of_decide_eq_false hr1
     refine s_ rfl rfl rfl rfl (s_ rfl rfl rfl rfl (s_ rfl rfl rfl rfl (a_ (A_ rfl rfl) rfl (a_ (f_ rfl) rfl (s_ rfl rfl rfl rfl (s_ rfl rfl rfl rfl (s_ rfl rfl rfl rfl (a_ (A_ rfl rfl) rfl (a_ (f_ rfl) rfl ?_)))))))))
     refine s_ rfl rfl rfl rfl (s_ rfl rfl rfl rfl (s_ rfl rfl rfl rfl (s_ rfl rfl rfl rfl (s_ rfl rfl rfl rfl (a_ (A_ rfl rfl) rfl (a_ (f_ rfl) rfl (s_ rfl rfl rfl rfl (s_ rfl rfl rfl rfl (s_ rfl rfl rfl rfl ?_)))))))))
     refine a_ (A_ rfl rfl) rfl (a_ (f_ rfl) rfl (s_ rfl rfl rfl rfl (s_ rfl rfl rfl rfl (s_ rfl rfl rfl rfl (a_ (A_ rfl rfl) rfl (a_ (g_ rfl) rfl (e_ (b_ rfl (H_ ?_)))))))))
     exact ap_ bV_ () (z_ rfl (by rw [← cu_]; have p1 := eq_false hr3; have p2 := eq_false hr4; have p3 := eq_true hr5; have p4 := eq_false hr1; simp only [dG_, p1, p2, p3, p4, if_true, if_false, decide_true, decide_false, Bool.and_true, Bool.and_false, Bool.true_and, Bool.false_and, Bool.or_true, Bool.or_false, Bool.true_or, Bool.false_or, Bool.not_true, Bool.not_false, ne_eq, not_true_eq_false, not_false_eq_true, true_and, and_true, false_and, and_false, true_or, or_true, false_or, or_false, ite_true, ite_false, Bool.false_eq_true]; (try rfl))) J_ (fun _ _ _ => trivial)
    ·
     replace hr1 := of_decide_eq_true hr1
     refine r_ rfl rfl (a_ (l_ k_ rfl rfl rfl j_) rfl (r_ rfl rfl (a_ (t_ 0 p_ rfl rfl rfl) rfl (r_ rfl rfl (y_ (ao_ rfl rfl) rfl fun r6 hr6 => ?_)))))
     refine a_ (G_ rfl rfl) rfl (a_ (f_ rfl) rfl ?_)
     cases r6
     ·
      replace hr6 := ne_of_beq_false hr6
      refine s_ rfl rfl rfl rfl (s_ rfl rfl rfl rfl (s_ rfl rfl rfl rfl (a_ (A_ rfl rfl) rfl (a_ (f_ rfl) rfl (s_ rfl rfl rfl rfl (s_ rfl rfl rfl rfl (s_ rfl rfl rfl rfl (s_ rfl rfl rfl rfl (s_ rfl rfl rfl rfl ?_)))))))))
      refine a_ (A_ rfl rfl) rfl (a_ (f_ rfl) rfl (s_ rfl rfl rfl rfl (s_ rfl rfl rfl rfl (s_ rfl rfl rfl rfl (a_ (A_ rfl rfl) rfl (a_ (f_ rfl) rfl (s_ rfl rfl rfl rfl (s_ rfl rfl rfl rfl (s_ rfl rfl rfl rfl ?_)))))))))
      refine a_ (A_ rfl rfl) rfl (a_ (g_ rfl) rfl (e_ (b_ rfl (H_ ?_))))
      exact ap_ bV_ () (z_ rfl (by rw [← cu_]; have p1 := eq_false hr3; have p2 := eq_false hr4; have p3 := eq_true hr5; have p4 := eq_true hr1; have p5 := eq_false hr6; simp only [dG_, p1, p2, p3, p4, p5, if_true, if_false, decide_true, decide_false, Bool.and_true, Bool.and_false, Bool.true_and, Bool.false_and, Bool.or_true, Bool.or_false, Bool.true_or, Bool.false_or, Bool.not_true, Bool.not_false, ne_eq, not_true_eq_false, not_false_eq_true, true_and, and_true, false_and, and_false, true_or, or_true, false_or, or_false, ite_true, ite_false, Bool.false_eq_true]; (try rfl))) J_ (fun _ _ _ => trivial)
     ·
      replace hr6 := eq_of_beq hr6
      refine r_ rfl rfl (a_ (l_ k_ rfl rfl rfl j_) rfl (r_ rfl rfl (a_ (t_ 0 p_ rfl rfl rfl) rfl (r_ rfl rfl (y_ (dn_ rfl rfl) rfl fun r7 hr7 => ?_)))))
      refine a_ (G_ rfl rfl) rfl (a_ (f_ rfl) rfl ?_)
      cases r7
      ·
       replace hr7 := bo_ hr7
       refine s_ rfl rfl rfl rfl (s_ rfl rfl rfl rfl (s_ rfl rfl rfl rfl (s_ rfl rfl rfl rfl (s_ rfl rfl rfl rfl (a_ (A_ rfl rfl) rfl (a_ (f_ rfl) rfl (s_ rfl rfl rfl rfl (s_ rfl rfl rfl rfl (s_ rfl rfl rfl rfl ?_)))))))))
       refine a_ (A_ rfl rfl) rfl (a_ (f_ rfl) rfl (s_ rfl rfl rfl rfl (s_ rfl rfl rfl rfl (s_ rfl rfl rfl rfl (a_ (A_ rfl rfl) rfl (a_ (g_ rfl) rfl (e_ (b_ rfl (H_ ?_)))))))))
       exact ap_ bV_ () (z_ rfl (by rw [← cu_]; have p1 := eq_false hr3; have p2 := eq_false hr4; have p3 := eq_true hr5; have p4 := eq_true hr1; have p5 := eq_true hr6; have p6 := eq_true hr7; simp only [dG_, p1, p2, p3, p4, p5, p6, if_true, if_false, decide_true, decide_false, Bool.and_true, Bool.and_false, Bool.true_and, Bool.false_and, Bool.or_true, Bool.or_false, Bool.true_or, Bool.false_or, Bool.not_true, Bool.not_false, ne_eq, not_true_eq_false, not_false_eq_true, true_and, and_true, false_and, and_false, true_or, or_true, false_or, or_false, ite_true, ite_false, Bool.false_eq_true]; (try rfl))) J_ (fun _ _ _ => trivial)
      ·
       replace hr7 := bn_ hr7
       refine r_ rfl rfl (a_ (l_ k_ rfl rfl rfl I_) rfl (r_ rfl rfl (a_ (t_ 0 L_ rfl rfl rfl) rfl (r_ rfl rfl (a_ (l_ k_ rfl rfl rfl I_) rfl (r_ rfl rfl (a_ (t_ 0 L_ rfl rfl rfl) rfl (r_ rfl rfl (y_ (bM_ rfl rfl) rfl fun r8 hr8 => ?_)))))))))
       refine a_ (G_ rfl rfl) rfl (a_ (f_ rfl) rfl ?_)
       cases r8
       ·
        replace hr8 := of_decide_eq_false hr8
        refine s_ rfl rfl rfl rfl (s_ rfl rfl rfl rfl (s_ rfl rfl rfl rfl (a_ (A_ rfl rfl) rfl (a_ (f_ rfl) rfl (s_ rfl rfl rfl rfl (s_ rfl rfl rfl rfl (s_ rfl rfl rfl rfl (a_ (A_ rfl rfl) rfl (a_ (g_ rfl) rfl ?_)))))))))
        refine e_ (b_ rfl (H_ ?_))
        exact ap_ bV_ () (z_ rfl (by rw [← cu_]; have p1 := eq_false hr3; have p2 := eq_false hr4; have p3 := eq_true hr5; have p4 := eq_true hr1; have p5 := eq_true hr6; have p6 := eq_false hr7; have p7 := eq_false hr8; simp only [dG_, p1, p2, p3, p4, p5, p6, p7, if_true, if_false, decide_true, decide_false, Bool.and_true, Bool.and_false, Bool.true_and, Bool.false_and, Bool.or_true, Bool.or_false, Bool.true_or, Bool.false_or, Bool.not_true, Bool.not_false, ne_eq, not_true_eq_false, not_false_eq_true, true_and, and_true, false_and, and_false, true_or, or_true, false_or, or_false, ite_true, ite_false, Bool.false_eq_true]; (try rfl))) J_ (fun _ _ _ => trivial)
       ·
        replace hr8 := of_decide_eq_true hr8
        refine r_ rfl rfl (a_ (l_ k_ rfl rfl rfl I_) rfl (r_ rfl rfl (a_ (t_ 0 L_ rfl rfl rfl) rfl (r_ rfl rfl (y_ (cJ_ rfl rfl) rfl fun r9 hr9 => ?_)))))
        refine a_ (G_ rfl rfl) rfl (a_ (f_ rfl) rfl ?_)
        cases r9
        ·
         replace hr9 := of_decide_eq_false hr9
         refine s_ rfl rfl rfl rfl (s_ rfl rfl rfl rfl (s_ rfl rfl rfl rfl (a_ (A_ rfl rfl) rfl (a_ (g_ rfl) rfl (e_ (b_ rfl (H_ ?_)))))))
         exact ap_ bV_ () (z_ rfl (by rw [← cu_]; have p1 := eq_false hr3; have p2 := eq_false hr4; have p3 := eq_true hr5; have p4 := eq_true hr1; have p5 := eq_true hr6; have p6 := eq_false hr7; have p7 := eq_true hr8; have p8 := eq_false hr9; simp only [dG_, p1, p2, p3, p4, p5, p6, p7, p8, if_true, if_false, decide_true, decide_false, Bool.and_true, Bool.and_false, Bool.true_and, Bool.false_and, Bool.or_true, Bool.or_false, Bool.true_or, Bool.false_or, Bool.not_true, Bool.not_false, ne_eq, not_true_eq_false, not_false_eq_true, true_and, and_true, false_and, and_false, true_or, or_true, false_or, or_false, ite_true, ite_false, Bool.false_eq_true]; (try rfl))) J_ (fun _ _ _ => trivial)
        ·
         replace hr9 := of_decide_eq_true hr9
         refine r_ rfl rfl (a_ (l_ k_ rfl rfl rfl I_) rfl (r_ rfl rfl (a_ (t_ 0 L_ rfl rfl rfl) rfl (r_ rfl rfl (y_ (bM_ rfl rfl) rfl fun r10 hr10 => ?_)))))
         refine a_ (G_ rfl rfl) rfl (a_ (g_ rfl) rfl (e_ (b_ rfl (H_ ?_))))
         exact ap_ bV_ () (z_ rfl (by rw [← cu_]; have p1 := eq_false hr3; have p2 := eq_false hr4; have p3 := eq_true hr5; have p4 := eq_true hr1; have p5 := eq_true hr6; have p6 := eq_false hr7; have p7 := eq_true hr8; have p8 := eq_true hr9; rw [← hr10]; simp only [dG_, p1, p2, p3, p4, p5, p6, p7, p8, if_true, if_false, decide_true, decide_false, Bool.and_true, Bool.and_false, Bool.true_and, Bool.false_and, Bool.or_true, Bool.or_false, Bool.true_or, Bool.false_or, Bool.not_true, Bool.not_false, ne_eq, not_true_eq_false, not_false_eq_true, true_and, and_true, false_and, and_false, true_or, or_true, false_or, or_false, ite_true, ite_false, Bool.false_eq_true]; (try rfl))) J_ (fun _ _ _ => trivial)
  ·
   replace hr4 := eq_of_beq hr4
   refine u_ rfl (h_ (c_ (a_ (f_ rfl) rfl (a_ (f_ rfl) rfl ?_))))
   cases r1
   ·
    replace hr1 := of_decide_eq_false hr1
    refine s_ rfl rfl rfl rfl (a_ (A_ rfl rfl) rfl (a_ (f_ rfl) rfl (s_ rfl rfl rfl rfl (s_ rfl rfl rfl rfl (s_ rfl rfl rfl rfl (a_ (A_ rfl rfl) rfl (a_ (f_ rfl) rfl (s_ rfl rfl rfl rfl (s_ rfl rfl rfl rfl ?_)))))))))
    refine s_ rfl rfl rfl rfl (a_ (A_ rfl rfl) rfl (a_ (f_ rfl) rfl (s_ rfl rfl rfl rfl (s_ rfl rfl rfl rfl (s_ rfl rfl rfl rfl (a_ (A_ rfl rfl) rfl (a_ (g_ rfl) rfl (e_ (b_ rfl ?_)))))))))
    refine H_ ?_
    exact ap_ bV_ () (z_ rfl (by rw [← cu_]; have p1 := eq_false hr3; have p2 := eq_true hr4; have p3 := eq_false hr1; simp only [dG_, p1, p2, p3, if_true, if_false, decide_true, decide_false, Bool.and_true, Bool.and_false, Bool.true_and, Bool.false_and, Bool.or_true, Bool.or_false, Bool.true_or, Bool.false_or, Bool.not_true, Bool.not_false, ne_eq, not_true_eq_false, not_false_eq_true, true_and, and_true, false_and, and_false, true_or, or_true, false_or, or_false, ite_true, ite_false, Bool.false_eq_true]; (try rfl))) J_ (fun _ _ _ => trivial)
   ·
    replace hr1 := of_decide_eq_true hr1
    refine r_ rfl rfl (a_ (f_ rfl) rfl (a_ (G_ rfl rfl) rfl (a_ (f_ rfl) rfl ?_)))
    cases r2
    ·
     replace hr2 := of_decide_eq_false hr2
     refine s_ rfl rfl rfl rfl (s_ rfl rfl rfl rfl (s_ rfl rfl rfl rfl (a_ (A_ rfl rfl) rfl (a_ (f_ rfl) rfl (s_ rfl rfl rfl rfl (s_ rfl rfl rfl rfl (s_ rfl rfl rfl rfl (a_ (A_ rfl rfl) rfl (a_ (f_ rfl) rfl ?_)))))))))
     refine s_ rfl rfl rfl rfl (s_ rfl rfl rfl rfl (s_ rfl rfl rfl rfl (a_ (A_ rfl rfl) rfl (a_ (g_ rfl) rfl (e_ (b_ rfl (H_ ?_)))))))
     exact ap_ bV_ () (z_ rfl (by rw [← cu_]; have p1 := eq_false hr3; have p2 := eq_true hr4; have p3 := eq_true hr1; have p4 := eq_false hr2; simp only [dG_, p1, p2, p3, p4, if_true, if_false, decide_true, decide_false, Bool.and_true, Bool.and_false, Bool.true_and, Bool.false_and, Bool.or_true, Bool.or_false, Bool.true_or, Bool.false_or, Bool.not_true, Bool.not_false, ne_eq, not_true_eq_false, not_false_eq_true, true_and, and_true, false_and, and_false, true_or, or_true, false_or, or_false, ite_true, ite_false, Bool.false_eq_true]; (try rfl))) J_ (fun _ _ _ => trivial)
    ·
     replace hr2 := of_decide_eq_true hr2
     refine r_ rfl rfl (a_ (l_ k_ rfl rfl rfl j_) rfl (r_ rfl rfl (a_ (t_ 0 p_ rfl rfl rfl) rfl (r_ rfl rfl (y_ (dn_ rfl rfl) rfl fun r11 hr11 => ?_)))))
     refine a_ (G_ rfl rfl) rfl (a_ (f_ rfl) rfl ?_)
     cases r11
     ·
      replace hr11 := bo_ hr11
      refine s_ rfl rfl rfl rfl (s_ rfl rfl rfl rfl (s_ rfl rfl rfl rfl (a_ (A_ rfl rfl) rfl (a_ (f_ rfl) rfl (s_ rfl rfl rfl rfl (s_ rfl rfl rfl rfl (s_ rfl rfl rfl rfl (a_ (A_ rfl rfl) rfl (a_ (g_ rfl) rfl ?_)))))))))
      refine e_ (b_ rfl (H_ ?_))
      exact ap_ bV_ () (z_ rfl (by rw [← cu_]; have p1 := eq_false hr3; have p2 := eq_true hr4; have p3 := eq_true hr1; have p4 := eq_true hr2; have p5 := eq_true hr11; simp only [dG_, p1, p2, p3, p4, p5, if_true, if_false, decide_true, decide_false, Bool.and_true, Bool.and_false, Bool.true_and, Bool.false_and, Bool.or_true, Bool.or_false, Bool.true_or, Bool.false_or, Bool.not_true, Bool.not_false, ne_eq, not_true_eq_false, not_false_eq_true, true_and, and_true, false_and, and_false, true_or, or_true, false_or, or_false, ite_true, ite_false, Bool.false_eq_true]; (try rfl))) J_ (fun _ _ _ => trivial)
     ·
      replace hr11 := bn_ hr11
      refine r_ rfl rfl (a_ (l_ k_ rfl rfl rfl I_) rfl (r_ rfl rfl (a_ (t_ 0 L_ rfl rfl rfl) rfl (r_ rfl rfl (y_ (aD_ rfl rfl) rfl fun r12 hr12 => ?_)))))
      refine a_ (G_ rfl rfl) rfl (a_ (f_ rfl) rfl ?_)
      cases r12
      ·
       replace hr12 := ne_of_beq_false hr12
       refine s_ rfl rfl rfl rfl (s_ rfl rfl rfl rfl (s_ rfl rfl rfl rfl (a_ (A_ rfl rfl) rfl (a_ (g_ rfl) rfl (e_ (b_ rfl (H_ ?_)))))))
       exact ap_ bV_ () (z_ rfl (by rw [← cu_]; have p1 := eq_false hr3; have p2 := eq_true hr4; have p3 := eq_true hr1; have p4 := eq_true hr2; have p5 := eq_false hr11; have p6 := eq_false hr12; simp only [dG_, p1, p2, p3, p4, p5, p6, if_true, if_false, decide_true, decide_false, Bool.and_true, Bool.and_false, Bool.true_and, Bool.false_and, Bool.or_true, Bool.or_false, Bool.true_or, Bool.false_or, Bool.not_true, Bool.not_false, ne_eq, not_true_eq_false, not_false_eq_true, true_and, and_true, false_and, and_false, true_or, or_true, false_or, or_false, ite_true, ite_false, Bool.false_eq_true]; (try rfl))) J_ (fun _ _ _ => trivial)
      ·
       replace hr12 := eq_of_beq hr12
       refine r_ rfl rfl (a_ (l_ k_ rfl rfl rfl I_) rfl (r_ rfl rfl (a_ (t_ 0 L_ rfl rfl rfl) rfl (r_ rfl rfl (y_ (aD_ rfl rfl) rfl fun r13 hr13 => ?_)))))
       refine a_ (G_ rfl rfl) rfl (a_ (g_ rfl) rfl (e_ (b_ rfl (H_ ?_))))
       exact ap_ bV_ () (z_ rfl (by rw [← cu_]; have p1 := eq_false hr3; have p2 := eq_true hr4; have p3 := eq_true hr1; have p4 := eq_true hr2; have p5 := eq_false hr11; have p6 := eq_true hr12; rw [← hr13]; simp only [dG_, p1, p2, p3, p4, p5, p6, if_true, if_false, decide_true, decide_false, Bool.and_true, Bool.and_false, Bool.true_and, Bool.false_and, Bool.or_true, Bool.or_false, Bool.true_or, Bool.false_or, Bool.not_true, Bool.not_false, ne_eq, not_true_eq_false, not_false_eq_true, true_and, and_true, false_and, and_false, true_or, or_true, false_or, or_false, ite_true, ite_false, Bool.false_eq_true]; (try rfl))) J_ (fun _ _ _ => trivial)
 ·
  replace hr3 := eq_of_beq hr3
  refine u_ rfl (h_ (c_ (a_ (f_ rfl) rfl (a_ (f_ rfl) rfl ?_))))
  cases r1
  ·
   replace hr1 := of_decide_eq_false hr1
   refine s_ rfl rfl rfl rfl (a_ (A_ rfl rfl) rfl (a_ (f_ rfl) rfl (s_ rfl rfl rfl rfl (s_ rfl rfl rfl rfl (s_ rfl rfl rfl rfl (a_ (A_ rfl rfl) rfl (a_ (f_ rfl) rfl (s_ rfl rfl rfl rfl (s_ rfl rfl rfl rfl ?_)))))))))
   refine s_ rfl rfl rfl rfl (a_ (A_ rfl rfl) rfl (a_ (f_ rfl) rfl (s_ rfl rfl rfl rfl (s_ rfl rfl rfl rfl (s_ rfl rfl rfl rfl (a_ (A_ rfl rfl) rfl (a_ (g_ rfl) rfl (e_ (b_ rfl ?_)))))))))
   refine H_ ?_
   exact ap_ bV_ () (z_ rfl (by rw [← cu_]; have p1 := eq_true hr3; have p2 := eq_false hr1; simp only [dG_, p1, p2, if_true, if_false, decide_true, decide_false, Bool.and_true, Bool.and_false, Bool.true_and, Bool.false_and, Bool.or_true, Bool.or_false, Bool.true_or, Bool.false_or, Bool.not_true, Bool.not_false, ne_eq, not_true_eq_false, not_false_eq_true, true_and, and_true, false_and, and_false, true_or, or_true, false_or, or_false, ite_true, ite_false, Bool.false_eq_true]; (try rfl))) J_ (fun _ _ _ => trivial)
  ·
   replace hr1 := of_decide_eq_true hr1
   refine r_ rfl rfl (a_ (f_ rfl) rfl (a_ (G_ rfl rfl) rfl (a_ (f_ rfl) rfl ?_)))
   cases r2
   ·
    replace hr2 := of_decide_eq_false hr2
    refine s_ rfl rfl rfl rfl (s_ rfl rfl rfl rfl (s_ rfl rfl rfl rfl (a_ (A_ rfl rfl) rfl (a_ (f_ rfl) rfl (s_ rfl rfl rfl rfl (s_ rfl rfl rfl rfl (s_ rfl rfl rfl rfl (a_ (A_ rfl rfl) rfl (a_ (f_ rfl) rfl ?_)))))))))
    refine s_ rfl rfl rfl rfl (s_ rfl rfl rfl rfl (s_ rfl rfl rfl rfl (a_ (A_ rfl rfl) rfl (a_ (g_ rfl) rfl (e_ (b_ rfl (H_ ?_)))))))
    exact ap_ bV_ () (z_ rfl (by rw [← cu_]; have p1 := eq_true hr3; have p2 := eq_true hr1; have p3 := eq_false hr2; simp only [dG_, p1, p2, p3, if_true, if_false, decide_true, decide_false, Bool.and_true, Bool.and_false, Bool.true_and, Bool.false_and, Bool.or_true, Bool.or_false, Bool.true_or, Bool.false_or, Bool.not_true, Bool.not_false, ne_eq, not_true_eq_false, not_false_eq_true, true_and, and_true, false_and, and_false, true_or, or_true, false_or, or_false, ite_true, ite_false, Bool.false_eq_true]; (try rfl))) J_ (fun _ _ _ => trivial)
   ·
    replace hr2 := of_decide_eq_true hr2
    refine r_ rfl rfl (a_ (l_ k_ rfl rfl rfl j_) rfl (r_ rfl rfl (a_ (t_ 0 p_ rfl rfl rfl) rfl (r_ rfl rfl (y_ (ao_ rfl rfl) rfl fun r14 hr14 => ?_)))))
    refine a_ (G_ rfl rfl) rfl (a_ (f_ rfl) rfl ?_)
    cases r14
    ·
     replace hr14 := ne_of_beq_false hr14
     refine s_ rfl rfl rfl rfl (s_ rfl rfl rfl rfl (s_ rfl rfl rfl rfl (a_ (A_ rfl rfl) rfl (a_ (f_ rfl) rfl (s_ rfl rfl rfl rfl (s_ rfl rfl rfl rfl (s_ rfl rfl rfl rfl (a_ (A_ rfl rfl) rfl (a_ (g_ rfl) rfl ?_)))))))))
     refine e_ (b_ rfl (H_ ?_))
     exact ap_ bV_ () (z_ rfl (by rw [← cu_]; have p1 := eq_true hr3; have p2 := eq_true hr1; have p3 := eq_true hr2; have p4 := eq_false hr14; simp only [dG_, p1, p2, p3, p4, if_true, if_false, decide_true, decide_false, Bool.and_true, Bool.and_false, Bool.true_and, Bool.false_and, Bool.or_true, Bool.or_false, Bool.true_or, Bool.false_or, Bool.not_true, Bool.not_false, ne_eq, not_true_eq_false, not_false_eq_true, true_and, and_true, false_and, and_false, true_or, or_true, false_or, or_false, ite_true, ite_false, Bool.false_eq_true]; (try rfl))) J_ (fun _ _ _ => trivial)
    ·
     replace hr14 := eq_of_beq hr14
     refine r_ rfl rfl (a_ (l_ k_ rfl rfl rfl I_) rfl (r_ rfl rfl (a_ (t_ 0 L_ rfl rfl rfl) rfl (r_ rfl rfl (y_ (aD_ rfl rfl) rfl fun r15 hr15 => ?_)))))
     refine a_ (G_ rfl rfl) rfl (a_ (f_ rfl) rfl ?_)
     cases r15
     ·
      replace hr15 := ne_of_beq_false hr15
      refine s_ rfl rfl rfl rfl (s_ rfl rfl rfl rfl (s_ rfl rfl rfl rfl (a_ (A_ rfl rfl) rfl (a_ (g_ rfl) rfl (e_ (b_ rfl (H_ ?_)))))))
      exact ap_ bV_ () (z_ rfl (by rw [← cu_]; have p1 := eq_true hr3; have p2 := eq_true hr1; have p3 := eq_true hr2; have p4 := eq_true hr14; have p5 := eq_false hr15; simp only [dG_, p1, p2, p3, p4, p5, if_true, if_false, decide_true, decide_false, Bool.and_true, Bool.and_false, Bool.true_and, Bool.false_and, Bool.or_true, Bool.or_false, Bool.true_or, Bool.false_or, Bool.not_true, Bool.not_false, ne_eq, not_true_eq_false, not_false_eq_true, true_and, and_true, false_and, and_false, true_or, or_true, false_or, or_false, ite_true, ite_false, Bool.false_eq_true]; (try rfl))) J_ (fun _ _ _ => trivial)
     ·
      replace hr15 := eq_of_beq hr15
      refine r_ rfl rfl (a_ (l_ k_ rfl rfl rfl I_) rfl (r_ rfl rfl (a_ (t_ 0 L_ rfl rfl rfl) rfl (r_ rfl rfl (y_ (aD_ rfl rfl) rfl fun r16 hr16 => ?_)))))
      refine a_ (G_ rfl rfl) rfl (a_ (g_ rfl) rfl (e_ (b_ rfl (H_ ?_))))
      exact ap_ bV_ () (z_ rfl (by rw [← cu_]; have p1 := eq_true hr3; have p2 := eq_true hr1; have p3 := eq_true hr2; have p4 := eq_true hr14; have p5 := eq_true hr15; rw [← hr16]; simp only [dG_, p1, p2, p3, p4, p5, if_true, if_false, decide_true, decide_false, Bool.and_true, Bool.and_false, Bool.true_and, Bool.false_and, Bool.or_true, Bool.or_false, Bool.true_or, Bool.false_or, Bool.not_true, Bool.not_false, ne_eq, not_true_eq_false, not_false_eq_true, true_and, and_true, false_and, and_false, true_or, or_true, false_or, or_false, ite_true, ite_false, Bool.false_eq_true]; (try rfl))) J_ (fun _ _ _ => trivial)
end Go.Proofs.YtpdbbglpbngeiaaGreatDoor
namespace Go.Proofs.YtpdbbglpbngeiaaGreatDoor
open Go Go.Sx Go.Proofs
attribute [local irreducible] Code.wp wpList wpAnyH
open Go.Vs
theorem kF_ {a b : Str} (h : str a = str b) : a = b := by
  have h1 := Value.string.inj h
  have h2 := congrArg (fun z : ByteArray => z.data.toList) h1
  simpa using h2
theorem Fc.val_inj (x y : Fc) (h : x.val = y.val) : x = y := by
  obtain ⟨k, a, b, r, lo, hi⟩ := x
  obtain ⟨k', a', b', r', lo', hi'⟩ := y
  have h1 : [Value.int .i64 k, str a, str b, str r, .int .i64 lo, .int .i64 hi] = [Value.int .i64 k', str a', str b', str r', .int .i64 lo', .int .i64 hi'] := by
    exact congrArg Array.toList (Value.agg.inj h)
  simp only [List.cons.injEq, Value.int.injEq, true_and, and_true] at h1
  obtain ⟨rfl, ha, hb, hr, rfl, rfl⟩ := h1
  rw [kF_ ha, kF_ hb, kF_ hr]
theorem qI_ {σ : Type} {l : Nat} {Gj : σ → Hp} {lst : σ → List Fc} (hY : ∀ s x, (lst s).length < 1000000000000 → qj_ Tryz.prog l (Fc.val x) (Gj s) [] (fun _ : {s' : σ // lst s' = lst s ++ [x]} => .bool true) (fun s' => Gj s'.1) (fun _ => [])) (s0 : σ) (hs0 : lst s0 = []) (mb bx c : Nat) (es : Array MapEntry) (q : List Fc) (hE : SetE Fc.val es q) (hB : Born es c) (hql : q.length ≤ 1000000000000) : Tri Tryz.prog 122 #[.func (.yield l) #[] #[], zp_ bx 0] ((bx, .cells #[.map (some mb)] 88 (0, 0)) :: (mb, .map es c) :: Gj s0) [] (fun _ : {s' : σ // (lst s').Perm q} => .tuple #[]) (fun s' => (bx, .cells #[.map (some mb)] 88 (0, 0)) :: (mb, .map es c) :: Gj s'.1) (fun _ => []) := by
  refine T_ Tryz.func122 rfl rfl Tryz.ntmps122 rfl fun v0 => ?_
  refine h_ (c_ (a_ (t_ 0 bH_ rfl rfl rfl) rfl (oo_ 1 Tryz.underlying88 rfl rfl rfl fun rr => ?_)))
  refine e_ (b_ rfl (N_ ?_))
  refine aB_ (ι := {y : List Fc × Array Nat × Nat × σ // ItS Fc.val es y.2.1 y.1 ∧ c ≤ y.2.2.1 ∧ lst y.2.2.2 = y.1 ∧ (∀ z ∈ y.1, z ∈ q)}) (fun y => [(0, .func (.yield l) #[] #[]), (1, zp_ bx 0), (5, zp_ rr 0)]) (fun y => ((rr, .mapIter (some mb) c y.1.2.1 y.1.2.2.1) :: ((bx, .cells #[.map (some mb)] 88 (0, 0)) :: ((mb, .map es c) :: (Gj y.1.2.2.2))))) (fun y => []) (fun y => List.length q - List.length y.1.1) ⟨([], #[], c, s0), ItS.nil, Nat.le_refl _, hs0, by simp⟩ ⟨rfl, rfl, rfl, trivial⟩ (o_ i_ (o_ i_ (o_ i_ aC_))) (fun _ _ _ => trivial) ?_
  rintro ⟨⟨done, seen, c0, s⟩, hI, hsc, hls, hsub⟩
  dsimp only at hI hsc hls hsub ⊢
  refine h_ (c_ ?_)
  refine py_ 0 2 rfl rfl rfl hB.lt hsc rfl (fun h0 => ?_) (fun e he => ?_)
  · skip
    refine a_ (aA_ rfl rfl) rfl (e_ (b_ rfl (h_ (v_ rfl (as_ rfl (bk_ rfl ?_))))))
    exact de_ Tryz.results122 ⟨s, by rw [hls]; exact hI.end Fc.val_inj hE h0⟩ rfl (o_ (d_ i_) (o_ (d_ i_) Q_)) (fun _ _ _ => trivial)
  · skip
    obtain ⟨k, hkq, hkd, hkv, hem, hI2⟩ := hI.step Fc.val_inj hE hB he
    refine a_ (aA_ rfl rfl) rfl (e_ (b_ rfl (h_ (u_ rfl (F_ (b_ rfl (N_ (h_ (c_ ?_)))))))))
    refine a_ (bm_ (nR_ 0 2 rfl rfl rfl hem hB) (show _ = Value.tuple #[Fc.val k, e.val] by rw [hkv])) rfl (a_ (aA_ rfl rfl) rfl (ay_ ah_ rfl fun b1 => ?_))
    refine af_ 0 B_ rfl rfl rfl rfl rfl rfl (e_ (b_ rfl (h_ ?_)))
    refine pf_ (ι := {s' : σ // lst s' = lst s ++ [k]}) (fun _ => [(0, .func (.yield l) #[] #[]), (1, zp_ bx 0), (5, zp_ rr 0), (13, .bool false)]) (fun z => ((b1, .cells (Fc.cells k).toArray 41 (0, 0)) :: ((rr, .mapIter (some mb) c (seen.push e.born) c) :: ((bx, .cells #[.map (some mb)] 88 (0, 0)) :: ((mb, .map es c) :: (Gj z.1)))))) (fun _ => []) ?_ ?_
    · skip
      refine fs_ ?_
      refine fk_ gD_ (f_ rfl) rfl rfl ?_
      refine fk_ gD_ (ae_ 0 V_ B_ rfl rfl rfl) rfl rfl ?_
      refine mH_ (hY s k (by rw [hls]; have := fm_ hI2.nd (m := q) (fun z hz => by rcases List.mem_append.1 hz with hz | hz; exact hsub z hz; rw [List.mem_singleton] at hz; exact hz ▸ hkq); rw [List.length_append, List.length_singleton] at this; omega)) rfl rfl (d_ (d_ (d_ Q_))) (fun _ _ _ => trivial) rfl fun z => ?_
      refine fk_ gD_ (bN_ rfl) rfl rfl ?_
      refine hO_ ?_
      refine jD_ rfl ?_
      exact km_ z ⟨rfl, rfl, rfl, rfl, trivial⟩ (o_ (q_ i_) (o_ (q_ i_) (o_ (q_ i_) (o_ aX_ aC_)))) (fun _ _ h => h)
    · skip
      rintro ⟨s', hs'⟩
      dsimp only
      refine b_ rfl (v_ rfl (F_ (w_ rfl ?_)))
      exact aa_ ⟨(done ++ [k], seen.push e.born, c, s'), hI2, Nat.le_refl _, by rw [hs', hls], fun z hz => by rcases List.mem_append.1 hz with hz | hz; exact hsub z hz; rw [List.mem_singleton] at hz; exact hz ▸ hkq⟩ (by have := fm_ hI2.nd (m := q) (fun z hz => by rcases List.mem_append.1 hz with hz | hz; exact hsub z hz; rw [List.mem_singleton] at hz; exact hz ▸ hkq); rw [List.length_append, List.length_singleton] at this; dsimp only; rw [List.length_append, List.length_singleton]; omega) ⟨rfl, rfl, rfl, trivial⟩ (o_ (d_ i_) (o_ (d_ i_) (o_ (d_ i_) Q_))) (fun _ _ _ => trivial)
theorem pf_as2 {H A B C G : Hp} {b : Nat × Obj} (h : H.Perm ((b :: (A ++ (B ++ C))) ++ G)) : H.Perm ((b :: A) ++ B ++ (C ++ G)) := by simpa [List.append_assoc] using h
theorem qB_ {a b c d e : Nat × Obj} {Q : Hp} : (a :: b :: c :: (Q ++ [d, e])).Perm (e :: a :: b :: c :: (Q ++ [d])) := by
  have h1 : (a :: b :: c :: (Q ++ [d, e])) = (a :: b :: c :: (Q ++ [d])) ++ [e] := by simp
  rw [h1]; exact List.perm_append_comm
theorem pf_D6 {a b c d : Nat × Obj} {Q : Hp} : (a :: b :: c :: (Q ++ [d])).Perm ((a :: b :: Q) ++ [c, d]) := by
  simp only [List.cons_append]
  refine List.Perm.cons a (List.Perm.cons b ?_)
  have h2 : Q ++ [c, d] = (Q ++ [c]) ++ [d] := by simp
  rw [h2]
  show (([c] ++ Q) ++ [d]).Perm _
  exact List.Perm.append_right _ List.perm_append_comm
theorem qe_ (mb bx c : Nat) (es : Array MapEntry) (q : List Fc) (hE : SetE Fc.val es q) (hB : Born es c) (hql : q.length ≤ 1000000000000) : Tri Tryz.prog 159 #[.slice none 0 0, .func (.func 122) #[] #[zp_ bx 0]] [(bx, .cells #[.map (some mb)] 88 (0, 0)), (mb, .map es c)] [] (fun y : {y : Value × Hp × List Fc // aQ_ 41 6 y.1 y.2.2.length (y.2.2.flatMap Fc.cells) y.2.1 ∧ y.2.2.Perm q} => y.1.1) (fun y => (bx, .cells #[.map (some mb)] 88 (0, 0)) :: (mb, .map es c) :: y.1.2.1) (fun _ => []) := by
  refine kC_ Tryz.func159 rfl rfl Tryz.ntmps159 rfl fun v0 => ?_
  refine h_ (c_ (bh_ rfl rfl fun b1 => ?_))
  refine a_ (g_ rfl) rfl (e_ (b_ rfl (h_ (h_ (c_ (a_ (f_ rfl) rfl (e_ (b_ rfl (N_ ?_)))))))))
  refine db_ [(2, zp_ b1 0), (6, .func (.func 122) #[] #[zp_ bx 0])] ⟨rfl, rfl, trivial⟩ ?_
  refine mA_ (σ := {y : Value × Hp × List Fc // aQ_ 41 6 y.1 y.2.2.length (y.2.2.flatMap Fc.cells) y.2.1}) (α := Fc) (xv := Fc.val) (good := fun s _ => s.1.2.2.length < 1000000000000) (nx := fun x s s' => s'.1.2.2 = s.1.2.2 ++ [x]) (Rc := fun s => (s.1.2.2).Perm q) (Γi := []) (Hj := fun y => (b1, .cells #[y.1.1] 26 (0, 0)) :: y.1.2.1) (Hc := [(bx, .cells #[.map (some mb)] 88 (0, 0)), (mb, .map es c)]) (caps := [zp_ bx 0]) ⟨(.slice none 0 0, [], []), aQ_.nil _ _⟩ rfl (@List.perm_append_comm _ [_] _) (fun _ _ _ => trivial) ?_ ?_ ?_
  · rintro l D rec hp hst hpe ht hasg hbody ⟨⟨sv, Hq, L⟩, hr⟩ x hx
    dsimp only at hr hx ⊢
    refine ll_ (ι := Nat) (Hj := fun y : {y : Value × Hp × List Fc // aQ_ 41 6 y.1 y.2.2.length (y.2.2.flatMap Fc.cells) y.2.1} => (b1, .cells #[y.1.1] 26 (0, 0)) :: y.1.2.1) (s := ⟨(sv, Hq, L), hr⟩) (ok := fun s' => s'.1.2.2 = L ++ [x]) (Γ := []) (fun b2 => [(2, zp_ b1 0), (5, zp_ b2 0)]) (fun b2 => (b2, .cells (Fc.cells x).toArray 41 (0, 0)) :: (b1, .cells #[sv] 26 (0, 0)) :: Hq) hp hst hpe ht rfl ?_ ?_
    · intro n v0 H0 HL
      rw [hasg]
      dsimp only
      refine gE_.2 (al_ (H' := (b1, .cells #[sv] 26 (0, 0)) :: (Hq ++ HL)) (by simp) (gE_.1 ?_))
      refine fs_ ?_
      refine mI_ (eB_ _) ah_ rfl fun b2 => ?_
      refine jp_ (eB_ _) 0 B_ rfl rfl rfl rfl rfl rfl ?_
      refine hO_ ?_
      refine jD_ rfl ?_
      exact km_ b2 ⟨rfl, rfl, trivial⟩ (F := []) (by rw [List.append_nil]; exact .refl _) (fun _ _ h => h)
    · intro n v0 H0 HL b2
      rw [hbody]
      refine gE_.2 (al_ (H' := (b2, .cells (Fc.cells x).toArray 41 (0, 0)) :: (b1, .cells #[sv] 26 (0, 0)) :: (Hq ++ HL)) (by simp) (gE_.1 ?_))
      refine mB_ ?_
      refine fs_ ?_
      refine fk_ (eB_ _) (t_ 1 bx_ rfl rfl rfl) rfl rfl ?_
      refine fk_ (eB_ _) (ae_ 0 V_ B_ rfl rfl rfl) rfl rfl ?_
      refine or_ (eB_ _) E_ B_ ah_ rfl rfl rfl rfl rfl rfl fun b3 => ?_
      refine lQ_ (eB_ _) (news := List.flatMap Fc.cells [x]) cg_ hr rfl rfl (d_ (d_ (d_ x_))) rfl (cR_ 0 rfl) (fun u hu => aR_ Fc.cells_one hu) (by simp only [maxLen]; omega) (by omega) rfl fun sv1 Hr1 hr1 => ?_
      have hq1 : aQ_ 41 6 sv1 (List.length (L ++ [x])) (List.flatMap Fc.cells (L ++ [x])) Hr1 := by rw [List.length_append, List.flatMap_append]; exact hr1
      refine pA_ (bb_ (q_ i_) (bb_ (q_ i_) (cj_ (q_ i_)))) ?_
      refine jN_ (eB_ _) 2 hq1 bJ_ rfl rfl rfl rfl ?_
      refine hO_ ?_
      refine jD_ rfl ?_
      exact mC_ ⟨(sv1, Hr1, (L ++ [x])), hq1⟩ rfl (pf_as2 (o_ (d_ (d_ i_)) (C_ (d_ (d_ x_)) (C_ (d_ Q_) (o_ i_ i_)))))
  · intro l Gj hY
    exact qI_ (lst := fun y => y.1.2.2) (fun s x h => hY s x h) ⟨(.slice none 0 0, [], []), aQ_.nil _ _⟩ rfl mb bx c es q hE hB hql
  · rintro ⟨⟨sv, Hq, L⟩, hr⟩ hL D l r
    dsimp only at hL hr ⊢
    refine kz_ rfl ?_
    refine ph_ ?_
    refine fs_ ?_
    refine fk_ gD_ (t_ 2 bx_ rfl rfl rfl) rfl rfl ?_
    refine fk_ gD_ (g_ rfl) rfl rfl ?_
    refine hO_ ?_
    refine kz_ rfl ?_
    refine pi_ ?_
    exact retMD (G := (bx, .cells #[.map (some mb)] 88 (0, 0)) :: (mb, .map es c) :: (b1, .cells #[sv] 26 (0, 0)) :: (Hq ++ [(l, .loop r)])) ⟨(sv, Hq, L), hr, hL⟩ (fun a v h1 h2 => by have e := h1.val 4 sv rfl; simp [results, Tryz.results159, e]) (by unfold HLp; simp only [List.cons_append, List.append_assoc, List.nil_append]; exact qB_) ⟨_, pf_D6⟩ rfl
end Go.Proofs.YtpdbbglpbngeiaaGreatDoor
