/-
  Part of the proof of the law SaturateBase over this seat: the small logic, the data, the contracts of functions (no condition).
-/
import Derived.Test.YtpdbbglpbngeiaaGreatDoorQSaturateBase2
import Derived.Lib.SlicesCompact
import Derived.Sort.EncStr
import Derived.Test.YtpdbbglpbngeiaaGreatDoorQSaturateBase3
import Derived.Test.YtpdbbglpbngeiaaGreatDoorQSaturateBase1
import Derived.Test.YtpdbbglpbngeiaaGreatDoorQSaturateBase4
import Derived.Scope
set_option linter.unusedVariables false
set_option linter.unusedSimpArgs false
set_option linter.unusedSectionVars false
namespace Go.Sx
open Go
section
variable {P : Program} {N : Nat} {fr : Fr} {H : Hp} {Γ : List Fct}
theorem no_ : ∀ (x y : List UInt8), Op.bytesLess x y = decide (x < y)
  | [], [] => by simp [Op.bytesLess]
  | _ :: _, [] => by simp [Op.bytesLess]
  | [], _ :: _ => by simp [Op.bytesLess]
  | a :: x, b :: y => by
    rw [Op.bytesLess, no_ x y]
    simp only [List.cons_lt_cons_iff]
    by_cases h1 : a < b <;> by_cases h2 : a = b <;> by_cases h3 : x < y <;> simp [h1, h2, h3]
theorem me_ {t t' ty : TypeId} {x y : Operand} {m n : List UInt8} (hx : Fr.ev fr x = some (str m)) (hy : Fr.ev fr y = some (str n)) : Yld P N fr H Γ (.binOp .lss t x y t') ty (.bool (decide (m < n))) :=
  fun a v h1 _ _ _ _ _ => by rw [← no_]; simp [execOp, h1.ev hx, h1.ev hy, str, eqGuard, binOp, Op.stringOp]
theorem jB_ {f : FuncId} {args : Array Value} {r : Value} {g : Nat} {cur : Array Value} {T : TypeId} {d : Array (List UInt8)} (hc : gg_ P f)
    (h : ∀ v : Vw, v.sat [(g, .cells cur T (0, 0))] → Calls P f args v.w fun e w' => e = .returned r ∧ ∃ n os, w' = Sort.grow (Sort.putRow Go.Proofs.encStr (Sort.ahead v.w n) g 0 d) os) :
    Tri P f args [(g, .cells cur T (0, 0))] Γ (fun _ : Unit => r) (fun _ => [(g, .cells (Sort.putCells Go.Proofs.encStr 0 d cur) T (0, 0))]) (fun _ => []) :=
  ⟨hc, fun v h1 _ => (h v h1).mono fun e w' ⟨he, n, os, hw⟩ => by
    have hg := (h1.own _ List.mem_cons_self)
    have hlt : g < v.w.heap.size := (Array.getElem?_eq_some_iff.1 hg.1).1
    have hb : ∀ b, b < v.w.heap.size → w'.heap[b]? = if b = g then some (.cells (Sort.putCells Go.Proofs.encStr 0 d cur) T (0, 0)) else v.w.heap[b]? := fun b hb => by
      rw [hw]
      simp only [Sort.grow, Sort.putRow, Sort.mapBlock, Sort.ahead]
      rw [Array.getElem?_append_left (by simpa using hb), Array.getElem?_modify]
      by_cases e : b = g
      · subst e
        simp only [if_true, hg.1, Option.map_some, Sort.onCells]
      · rw [if_neg (fun q => e q.symm), if_neg e]
    have hsz : v.w.heap.size ≤ w'.heap.size := by rw [hw]; simp [Sort.grow, Sort.putRow, Sort.mapBlock, Sort.ahead]
    refine ⟨(), ⟨v.im, w', v.sl⟩, he, rfl, ⟨fun p hp => ?_, by simp, fun b hbb => Nat.lt_of_lt_of_le (h1.lt b hbb) hsz⟩, trivial, ⟨by rw [hw]; rfl, by rw [hw]; rfl, by rw [hw]; rfl, hsz, fun b hbb hn => ?_, fun _ h => h, fun _ h => .inl h, fun b hm => .inl (by simpa using hm), rfl, .inr (by rw [hw]; exact Nat.le_add_right _ _)⟩⟩
    · simp only [List.mem_singleton] at hp
      subst hp
      exact ⟨by show w'.heap[g]? = _; rw [hb g hlt, if_pos rfl], hg.2⟩
    · have hn' : b ≠ g := by simpa using hn
      show w'.heap[b]? = _
      rw [hb b hbb, if_neg hn']⟩
theorem mx_ {cur : Array Value} {d : List (List UInt8)} (hs : d.length ≤ cur.size) : (Sort.putCells Go.Proofs.encStr 0 d.toArray cur).toList.take d.length = d.flatMap bf_ := by
  rw [jG_]
  apply List.ext_getElem?
  intro j
  rw [List.getElem?_take, List.getElem?_map]
  split
  · rename_i hj
    simp only [Sort.putCells, Array.getElem?_toList, Array.getElem?_mapIdx]
    rw [Array.getElem?_eq_getElem (by omega)]
    simp only [Option.map_some, Nat.zero_le, true_and, Nat.zero_add, List.size_toArray, hj, if_true, Nat.sub_zero]
    rw [List.getElem?_eq_getElem hj]
    simp only [Option.map_some]
    rw [getElem!_pos d.toArray j (by simpa using hj)]
    rfl
  · rename_i hj
    rw [List.getElem?_eq_none (by omega)]; rfl
theorem my_ {cur : Array Value} {d : Array (List UInt8)} : (Sort.putCells Go.Proofs.encStr 0 d cur).size = cur.size := by simp [Sort.putCells]
end
end Go.Sx
namespace Go.Vs
open Go Go.Sx
def kC_ (p : Pc) : List Str := [p.a, p.b, p.c].filter fun s => !(s == [])
def cX_ (l : List Pc) : List Str := l.flatMap kC_
def eg_ (l : List Pc) : List Str := Lib.compact ((cX_ l).mergeSort fun x y => decide (x ≤ y))
theorem hN_ : ∀ l : List Pc, (cX_ l).length ≤ 3 * l.length
  | [] => by simp [cX_]
  | p :: r => by
    have h1 := hN_ r
    have h2 : (kC_ p).length ≤ 3 := by unfold kC_; exact List.length_filter_le _ _
    simp only [cX_, List.flatMap_cons, List.length_append, List.length_cons] at h1 ⊢
    omega
theorem qr_ (l : List Str) : (l.mergeSort fun x y => decide (x ≤ y)).Pairwise fun x y => x ≤ y := by
  have h := List.pairwise_mergeSort (le := fun x y : Str => decide (x ≤ y)) (fun a b c h1 h2 => by simp only [decide_eq_true_eq] at *; exact List.le_trans h1 h2) (fun a b => by
    simp only [Bool.or_eq_true, decide_eq_true_eq]; exact List.le_total a b) l
  exact h.imp (fun h => of_decide_eq_true h)
theorem hb_ {zs : List Str} : Lib.compact zs = ((List.range zs.length).filter fun j => decide (j = 0 ∨ zs[j]! ≠ zs[j - 1]!)).map fun j => zs[j]! := by
  unfold Lib.compact Lib.compactUpTo Lib.keeps
  have e : ∀ j, zs.toArray[j]! = zs[j]! := fun j => by
    by_cases h : j < zs.length
    · rw [getElem!_pos zs.toArray j (by simpa using h), getElem!_pos zs j h]; simp
    · rw [getElem!_neg zs.toArray j (by simpa using h), getElem!_neg zs j h]
  rw [List.map_congr_left fun j _ => e j]
  congr 2
  funext j
  rw [e, e]
theorem ha_ (zs : List Str) : (Lib.compact zs).length ≤ zs.length := by
  rw [hb_, List.length_map]
  have := List.length_filter_le (fun j => decide (j = 0 ∨ zs[j]! ≠ zs[j - 1]!)) (List.range zs.length)
  simpa using this
theorem ji_ {zs : List Str} (x : Str) : x ∈ Lib.compact zs ↔ x ∈ zs := by
  rw [hb_, List.mem_map]
  constructor
  · rintro ⟨j, hj, rfl⟩
    have hl := List.mem_range.1 (List.mem_filter.1 hj).1
    rw [getElem!_pos zs j hl]
    exact List.getElem_mem hl
  · intro hx
    obtain ⟨j, hj, e⟩ := List.mem_iff_getElem.1 hx
    clear hx
    induction j with
    | zero => exact ⟨0, List.mem_filter.2 ⟨List.mem_range.2 hj, by simp⟩, by rw [getElem!_pos zs 0 hj]; exact e⟩
    | succ j ih =>
      by_cases h : zs[j + 1]! = zs[j]!
      · have hj' : j < zs.length := by omega
        refine ih hj' ?_
        rw [getElem!_pos zs (j + 1) hj, getElem!_pos zs j hj'] at h
        rw [← h]; exact e
      · exact ⟨j + 1, List.mem_filter.2 ⟨List.mem_range.2 hj, decide_eq_true (.inr h)⟩, by rw [getElem!_pos zs (j + 1) hj]; exact e⟩
theorem nV_ {zs : List Str} (hs : zs.Pairwise fun x y => x ≤ y) : (Lib.compact zs).Pairwise fun x y => x < y := by
  rw [hb_, List.pairwise_map]
  have hr : (List.range zs.length).Pairwise (· < ·) := List.pairwise_lt_range
  have hf := hr.filter (fun j => decide (j = 0 ∨ zs[j]! ≠ zs[j - 1]!))
  refine List.Pairwise.imp_of_mem ?_ hf
  intro j k hj hk hlt
  have hkl := List.mem_range.1 (List.mem_filter.1 hk).1
  have hkk := (List.mem_filter.1 hk).2
  simp only [decide_eq_true_eq] at hkk
  have hne : zs[k]! ≠ zs[k - 1]! := by
    rcases hkk with h | h
    · omega
    · exact h
  have hle : ∀ a b, a ≤ b → b < zs.length → zs[a]! ≤ zs[b]! := by
    intro a b hab hb
    rcases Nat.lt_or_eq_of_le hab with h | h
    · rw [getElem!_pos zs a (by omega), getElem!_pos zs b hb]
      exact List.pairwise_iff_getElem.1 hs a b (by omega) hb h
    · subst h; exact List.le_refl _
  have h1 := hle j (k - 1) (by omega) (by omega)
  have h2 := hle (k - 1) k (by omega) hkl
  have h3 : zs[k - 1]! < zs[k]! := by
    apply Decidable.byContradiction
    intro h
    exact hne (List.le_antisymm (List.not_lt.1 h) h2)
  exact List.lt_of_le_of_lt h1 h3
theorem gz_ (l : List Pc) (x : Str) : x ∈ eg_ l ↔ x ∈ cX_ l := by
  unfold eg_
  rw [ji_, List.mem_mergeSort]
theorem eD_ (l : List Pc) : (eg_ l).length ≤ 3 * l.length := by
  have h1 := ha_ ((cX_ l).mergeSort fun x y => decide (x ≤ y))
  rw [List.length_mergeSort] at h1
  have h2 := hN_ l
  unfold eg_
  omega
end Go.Vs
namespace Go.Proofs.YtpdbbglpbngeiaaGreatDoor
open Go Go.Sx Go.Proofs
attribute [local irreducible] Code.wp wpList wpAnyH
open Go.Vs
theorem eltS : Elt Tryz.prog 25 9 1 16 := lk_ gJ_ (z := .string ⟨#[]⟩) (by kernel_rfl) rfl (by decide)
theorem le_ {g n cap : Nat} {cur : Array Value} {xs : List Str} {v : Vw} (hs : v.sat [(g, .cells cur 9 (0, 0))]) (ht : cur.toList.take (xs.length * 1) = xs.flatMap bf_) : Sort.Holds encStr v.w g 0 xs.toArray := by
  intro j hj
  have hb := (hs.own _ List.mem_cons_self).1
  simp only [List.size_toArray] at hj
  have hc : cur[j]? = some (str xs[j]) := kP_ ht j xs[j] (List.getElem?_eq_getElem hj)
  refine ⟨?_, ?_⟩
  · simp only [World.cell?, Nat.zero_add, hb, Option.isSome_none, Bool.false_eq_true, if_false]
    rw [hc, getElem!_pos xs.toArray j (by simpa using hj)]
    rfl
  · simp [World.frozen?, hb]
theorem ol_ {sv : Value} {xs : List Str} {Hr : Hp} (h : bt_ 9 1 sv xs.length (xs.flatMap bf_) Hr) (hl : xs.length ≤ 1000000000000) :
    Tri Tryz.prog 87 #[sv] Hr [] (fun _ : {y : Hp // bt_ 9 1 sv xs.length ((xs.mergeSort fun x y => decide (x ≤ y)).flatMap bf_) y} => .tuple #[]) (fun y => y.1) (fun _ => []) := by
  rcases h.2 with ⟨rfl, h2, rfl⟩ | ⟨g, cap, cur, rfl, rfl, h3, h4, h5, h6⟩
  · obtain rfl : xs = [] := List.eq_nil_of_length_eq_zero h2
    have T := dz_ (P := Tryz.prog) (H := []) (Γ := []) (callable Tryz.func87 rfl rfl) (fun v _ _ => (Tryz.slices_Sort_string_none none 0 v.w).mono (by rintro e w' ⟨rfl, rfl⟩; exact ⟨rfl, ⟨rfl, rfl, rfl, Nat.le_refl _, fun _ _ => rfl⟩, .inr (Nat.le_refl _)⟩))
    exact ⟨T.callable, fun v a b => (T.run v a b).mono (by rintro e w' ⟨x, v', e1, e2, e3, e4, e5⟩; exact ⟨⟨[], by simpa using bt_.nil _ _⟩, v', e1, e2, e3, e4, e5⟩)⟩
  · have T := jB_ (P := Tryz.prog) (Γ := []) (d := (xs.mergeSort fun x y => decide (x ≤ y)).toArray) (callable Tryz.func87 rfl rfl) (fun v hs => Tryz.slices_Sort_string g 0 cap xs v.w (le_ (n := 0) (cap := 0) hs h6) (Array.getElem?_eq_some_iff.1 (hs.own _ List.mem_cons_self).1).1 (by omega))
    have hsz : (xs.mergeSort fun x y => decide (x ≤ y)).length = xs.length := List.length_mergeSort _
    refine ⟨T.callable, fun v a b => (T.run v a b).mono ?_⟩
    rintro e w' ⟨x, v', e1, e2, e3, e4, e5⟩
    refine ⟨⟨_, by rw [eB_ bf_ 1 aX_, hsz], .inr ⟨g, cap, _, rfl, rfl, h3, h4, by rw [my_]; exact h5, ?_⟩⟩, v', e1, e2, e3, e4, e5⟩
    have := mx_ (cur := cur) (d := xs.mergeSort fun x y => decide (x ≤ y)) (by rw [hsz, h5]; omega)
    rw [hsz] at this
    rw [Nat.mul_one]; exact this
theorem kw_ {sv : Value} {xs : List Str} {Hr : Hp} (h : bt_ 9 1 sv xs.length (xs.flatMap bf_) Hr) (hl : xs.length ≤ 1000000000000) :
    Tri Tryz.prog 88 #[sv] Hr [] (fun y : {y : Value × Hp // bt_ 9 1 y.1 (Lib.compact xs).length ((Lib.compact xs).flatMap bf_) y.2} => y.1.1) (fun y => y.1.2) (fun _ => []) := by
  rcases h.2 with ⟨rfl, h2, rfl⟩ | ⟨g, cap, cur, rfl, rfl, h3, h4, h5, h6⟩
  · obtain rfl : xs = [] := List.eq_nil_of_length_eq_zero h2
    have T := dz_ (P := Tryz.prog) (H := []) (Γ := []) (callable Tryz.func88 rfl rfl) (fun v _ _ => (Tryz.slices_Compact_string_empty none 0 v.w).mono (by rintro e w' ⟨rfl, rfl⟩; exact ⟨rfl, ⟨rfl, rfl, rfl, Nat.le_refl _, fun _ _ => rfl⟩, .inr (Nat.le_refl _)⟩))
    exact ⟨T.callable, fun v a b => (T.run v a b).mono (by rintro e w' ⟨x, v', e1, e2, e3, e4, e5⟩; exact ⟨⟨(.slice none 0 0, []), by simpa [Lib.compact, Lib.compactUpTo] using bt_.nil _ _⟩, v', e1, e2, e3, e4, e5⟩)⟩
  · have hcl := ha_ xs
    have T := jB_ (P := Tryz.prog) (Γ := []) (r := .slice (some ⟨g, 0, none⟩) (Lib.compact xs).length cap) (d := (Lib.compact xs ++ List.replicate (xs.length - (Lib.compact xs).length) []).toArray) (callable Tryz.func88 rfl rfl) (fun v hs => (Tryz.slices_Compact_string g 0 cap xs v.w (le_ (n := 0) (cap := 0) hs h6) (by omega) h3).mono (by
      rintro e w' ⟨rfl, q, rfl⟩
      exact ⟨rfl, q, #[], by rw [Sort.grow_empty]⟩))
    refine ⟨T.callable, fun v a b => (T.run v a b).mono ?_⟩
    rintro e w' ⟨x, v', e1, e2, e3, e4, e5⟩
    refine ⟨⟨(.slice (some ⟨g, 0, none⟩) (Lib.compact xs).length cap, _), by rw [eB_ bf_ 1 aX_], .inr ⟨g, cap, _, rfl, rfl, by omega, h4, by rw [my_]; exact h5, ?_⟩⟩, v', e1, e2, e3, e4, e5⟩
    have hd : (Lib.compact xs ++ List.replicate (xs.length - (Lib.compact xs).length) ([] : Str)).length = xs.length := by simp; omega
    have := mx_ (cur := cur) (d := Lib.compact xs ++ List.replicate (xs.length - (Lib.compact xs).length) []) (by rw [hd, h5]; omega)
    rw [hd] at this
    have h7 := congrArg (List.take (Lib.compact xs).length) this
    rw [List.take_take, Nat.min_eq_left hcl, List.flatMap_append, List.take_append_of_le_length (by rw [eB_ bf_ 1 aX_]; omega), List.take_of_length_le (l := (Lib.compact xs).flatMap bf_) (by rw [eB_ bf_ 1 aX_]; omega)] at h7
    rw [Nat.mul_one]; exact h7
theorem sA_ (l : List Pc) (ad : Option Addr) (cap : Nat) (hl : l.length ≤ 100000000000) : Tri Tryz.prog 98 #[.slice ad (List.length l) cap] [] [bb_ ad (List.flatMap Pc.cells l)] (fun y : {y : Option Addr × Nat // (eg_ l).length ≤ y.2 ∧ y.2 ≤ maxLen} => .slice y.1.1 (eg_ l).length y.1.2) (fun _ => []) (fun y => [bb_ y.1.1 ((eg_ l).flatMap bf_)]) := by
 refine R_ Tryz.func98 rfl rfl Tryz.ntmps98 rfl fun v0 => ?_
 refine f_ (d_ (a_ (h_ rfl) rfl (e_ (b_ rfl (f_ (f_ (d_ (a_ (g_ rfl) rfl (a_ (at_ T_ rfl) rfl ?_)))))))))
 refine a_ (g_ rfl) rfl (e_ (b_ rfl (S_ (bT_ [(2, .slice none 0 0), (7, .slice ad (List.length l) cap), (8, .int .i64 (List.length l : Int)), (9, .int .i64 ((0 : Nat) : Int))] ⟨rfl, rfl, rfl, rfl, trivial⟩ ?_))))
 refine bZ_ (ι := {y : Nat × Value × Hp // y.1 ≤ l.length ∧ bt_ 9 1 y.2.1 (cX_ (l.take y.1)).length ((cX_ (l.take y.1)).flatMap bf_) y.2.2}) (fun y => [(2, y.1.2.1), (7, .slice ad (List.length l) cap), (8, .int .i64 (List.length l : Int)), (9, .int .i64 (y.1.1 : Int))]) (fun y => y.1.2.2) (fun _ => _) (fun y => l.length - y.1.1) ⟨(0, .slice none 0 0, []), by simp, bt_.nil _ _⟩ ?_
 rintro ⟨⟨i, sv, Hr⟩, hi, hrow⟩
 dsimp only at hi hrow
 dsimp only
 have hol := hN_ (l.take i)
 rw [List.length_take] at hol
 refine bT_ [(2, sv), (7, .slice ad (List.length l) cap), (8, .int .i64 (List.length l : Int)), (9, .int .i64 (i : Int))] ⟨rfl, rfl, rfl, rfl, trivial⟩ ?_
 refine f_ (d_ (z_ (aC_ rfl rfl) rfl fun r1 hr1 => ?_))
 refine e_ (b_ rfl (f_ ?_))
 cases r1
 ·
  replace hr1 := of_decide_eq_false hr1
  refine r_ rfl (ay_ rfl (b_ rfl (f_ ?_)))
  have et : l.take i = l := List.take_of_length_le (by omega)
  rw [et] at hrow hol
  refine d_ (a_ (g_ rfl) rfl (Q_ (ol_ hrow (by omega)) rfl be_ (fun _ _ _ => by exact trivial) rfl fun ⟨Hs, hs⟩ => ?_))
  dsimp only
  refine ap_ (List.Perm.symm be_) ?_
  have hs2 : bt_ 9 1 sv ((cX_ l).mergeSort fun x y => decide (x ≤ y)).length (((cX_ l).mergeSort fun x y => decide (x ≤ y)).flatMap bf_) Hs := by rw [List.length_mergeSort]; exact hs
  refine e_ (b_ rfl (f_ (d_ (a_ (g_ rfl) rfl (Q_ (kw_ hs2 (by rw [List.length_mergeSort]; omega)) rfl be_ (fun _ _ _ => by exact trivial) rfl fun ⟨⟨sc, Hc⟩, hc⟩ => ?_)))))
  dsimp only
  refine ap_ (List.Perm.symm be_) (a_ (h_ rfl) rfl (e_ (b_ rfl (D_ (hJ_ hc be_ fun ad2 cp2 hsv hc1 hc2 => ?_)))))
  exact ar_ Tryz.results98 ⟨(ad2, cp2), hc1, hc2⟩ (jt_ rfl hsv) X_ (fun v _ h => ⟨h.1, trivial⟩)
 ·
  replace hr1 := of_decide_eq_true hr1
  have hlx1 : i < List.length l := by omega
  obtain ⟨x1, hx1⟩ : ∃ e0, l[i]? = some e0 := ⟨_, List.getElem?_eq_getElem hlx1⟩
  have hmx1 : x1 ∈ l := List.mem_of_getElem? hx1
  refine n_ rfl (B_ (b_ rfl (f_ (S_ (f_ (d_ (a_ (aj_ T_ W_ rfl rfl (fun v _ h => aO_ (n := 10) Pc.cells_len (by decide) (by exact h.1) hx1) (by omega) (by first | omega | (simp; done))) rfl (a_ (aG_ (ad := ad) (us := Pc.cells x1) bs_ W_ rfl (fun v _ h => by exact h.1) (Pc.cells_len _) (an_ Pc.cells_len hx1)) rfl (al_ as_ rfl fun b1 => ?_)))))))))
  refine ae_ 0 W_ rfl rfl rfl rfl rfl rfl (e_ (b_ rfl (f_ (d_ (a_ (k_ C_ rfl rfl rfl p_) rfl (a_ (o_ 0 v_ rfl rfl rfl) rfl (a_ (k_ C_ rfl rfl rfl p_) rfl (a_ (o_ 0 v_ rfl rfl rfl) rfl (a_ (k_ C_ rfl rfl rfl p_) rfl ?_)))))))))
  refine a_ (o_ 0 v_ rfl rfl rfl) rfl (aW_ L_ p_ bm_ rfl rfl rfl rfl rfl rfl fun b2 => ?_)
  refine eM_ (List.flatMap bf_ [(Pc.a x1), (Pc.b x1), (Pc.c x1)]) i_ rfl ?_
  refine a_ (at_ L_ rfl) rfl (a_ (g_ rfl) rfl (e_ (b_ rfl (S_ (bT_ [(2, sv), (7, .slice ad (List.length l) cap), (8, .int .i64 (List.length l : Int)), (9, .int .i64 (i : Int)), (19, .slice (some ⟨b2, 0, none⟩) (List.length [(Pc.a x1), (Pc.b x1), (Pc.c x1)]) 3), (20, .int .i64 3), (21, .int .i64 ((0 : Nat) : Int))] ⟨rfl, rfl, rfl, rfl, rfl, rfl, rfl, trivial⟩ ?_)))))
  refine bZ_ (ι := {y : Nat × Value × Hp // y.1 ≤ 3 ∧ bt_ 9 1 y.2.1 (cX_ (l.take i) ++ (List.take y.1 [x1.a, x1.b, x1.c]).filter fun s => !(s == [])).length ((cX_ (l.take i) ++ (List.take y.1 [x1.a, x1.b, x1.c]).filter fun s => !(s == [])).flatMap bf_) y.2.2}) (fun y => [(2, y.1.2.1), (7, .slice ad (List.length l) cap), (8, .int .i64 (List.length l : Int)), (9, .int .i64 (i : Int)), (19, .slice (some ⟨b2, 0, none⟩) (List.length [(Pc.a x1), (Pc.b x1), (Pc.c x1)]) 3), (20, .int .i64 3), (21, .int .i64 (y.1.1 : Int))]) (fun y => _ ::  y.1.2.2) (fun _ => _) (fun y => 3 - y.1.1) ⟨(0, sv, Hr), by simp, by simpa using hrow⟩ ?_
  rintro ⟨⟨k, sw, Hw⟩, hk, hkr⟩
  dsimp only at hk hkr
  dsimp only
  have hfl : ((cX_ (l.take i) ++ (List.take k [x1.a, x1.b, x1.c]).filter fun s => !(s == []))).length ≤ (cX_ (l.take i)).length + 3 := by
   have := List.length_filter_le (fun s => !(s == [])) (List.take k [x1.a, x1.b, x1.c])
   simp only [List.length_append, List.length_take, List.length_cons, List.length_nil] at this ⊢
   omega
  refine bT_ [(2, sw), (7, .slice ad (List.length l) cap), (8, .int .i64 (List.length l : Int)), (9, .int .i64 (i : Int)), (19, .slice (some ⟨b2, 0, none⟩) (List.length [(Pc.a x1), (Pc.b x1), (Pc.c x1)]) 3), (20, .int .i64 3), (21, .int .i64 (k : Int))] ⟨rfl, rfl, rfl, rfl, rfl, rfl, rfl, trivial⟩ ?_
  refine f_ (d_ (z_ (aC_ rfl rfl) rfl fun r2 hr2 => ?_))
  refine e_ (b_ rfl (f_ ?_))
  cases r2
  ·
   replace hr2 := of_decide_eq_false hr2
   refine r_ rfl (ay_ rfl (b_ rfl (d_ (a_ (V_ rfl rfl rfl (am_ (by omega) (by omega))) rfl (a_ (g_ rfl) rfl (e_ (t_ rfl ?_)))))))
   have hst : cX_ (l.take (i + 1)) = cX_ (l.take i) ++ kC_ x1 := by unfold cX_; rw [List.take_add_one, hx1, List.flatMap_append]; simp
   exact ah_ ⟨(i + 1, sw, Hw), hlx1, by dsimp only; rw [hst]; have := hkr; rw [List.take_of_length_le (show [x1.a, x1.b, x1.c].length ≤ k by simp; omega)] at this; exact this⟩ (by dsimp only; omega) ⟨rfl, rfl, rfl, rfl, trivial⟩ (c_ be_) (fun _ _ h => h.2)
  ·
   replace hr2 := of_decide_eq_true hr2
   have hly1 : k < List.length [(Pc.a x1), (Pc.b x1), (Pc.c x1)] := by simp; omega
   obtain ⟨y1, hy1⟩ : ∃ e0, [(Pc.a x1), (Pc.b x1), (Pc.c x1)][k]? = some e0 := ⟨_, List.getElem?_eq_getElem hly1⟩
   have hmy1 : y1 ∈ [(Pc.a x1), (Pc.b x1), (Pc.c x1)] := List.mem_of_getElem? hy1
   refine n_ rfl (B_ (b_ rfl (f_ (S_ (f_ (d_ (a_ (aj_ L_ p_ rfl rfl (fun v _ h => aO_ (n := 1) aX_ (by decide) (by exact h.1) hy1) (by omega) (by first | omega | (simp; done))) rfl (a_ (bA_ (ad := (some ⟨b2, 0, none⟩)) v_ rfl (fun v _ h => by exact h.1) (an_ aX_ hy1 0 _ rfl)) rfl (a_ (h_ rfl) rfl ?_)))))))))
   refine e_ (b_ rfl (f_ (d_ (a_ (g_ rfl) rfl (z_ (eG_ rfl rfl) rfl fun r3 hr3 => ?_)))))
   refine e_ (b_ rfl ?_)
   cases r3
   ·
    replace hr3 := bN_ hr3
    refine r_ rfl (B_ (b_ rfl (d_ (a_ (V_ rfl rfl rfl (am_ (by omega) (by omega))) rfl (a_ (g_ rfl) rfl (e_ (t_ rfl ?_)))))))
    have hst : (cX_ (l.take i) ++ (List.take (k + 1) [x1.a, x1.b, x1.c]).filter fun s => !(s == [])) = (cX_ (l.take i) ++ (List.take k [x1.a, x1.b, x1.c]).filter fun s => !(s == [])) ++ [y1].filter (fun s => !(s == [])) := by rw [List.append_assoc, ← List.filter_append, List.take_add_one, hy1]; simp
    rw [show [y1].filter (fun s => !(s == [])) = [] by simp [*], List.append_nil] at hst
    exact ah_ ⟨(k + 1, sw, Hw), by dsimp only; omega, by dsimp only; rw [hst]; exact hkr⟩ (by dsimp only; omega) ⟨rfl, rfl, rfl, rfl, rfl, rfl, rfl, trivial⟩ (l_ i_ be_) (fun _ _ h => h)
   ·
    replace hr3 := bM_ hr3
    refine n_ rfl (d_ (a_ (g_ rfl) rfl (a_ (g_ rfl) rfl (aW_ L_ p_ bm_ rfl rfl rfl rfl rfl rfl fun b3 => ?_))))
    refine bp_ (news := [str y1]) eltS hkr rfl rfl (c_ (c_ be_)) rfl (df_ 0 rfl) (ig_ rfl) (by simp only [maxLen]; omega) (by omega) rfl fun sv2 Hr2 hrow2 => ?_
    refine ap_ (@List.perm_append_comm _ _ [_, _]) (a_ (h_ rfl) rfl (e_ (b_ rfl (d_ (a_ (V_ rfl rfl rfl (am_ (by omega) (by omega))) rfl (a_ (g_ rfl) rfl (e_ (t_ rfl ?_))))))))
    have hst : (cX_ (l.take i) ++ (List.take (k + 1) [x1.a, x1.b, x1.c]).filter fun s => !(s == [])) = (cX_ (l.take i) ++ (List.take k [x1.a, x1.b, x1.c]).filter fun s => !(s == [])) ++ [y1].filter (fun s => !(s == [])) := by rw [List.append_assoc, ← List.filter_append, List.take_add_one, hy1]; simp
    rw [show [y1].filter (fun s => !(s == [])) = [y1] by simp [*]] at hst
    exact ah_ ⟨(k + 1, sv2, Hr2), by dsimp only; omega, by dsimp only; rw [hst]; rw [List.length_append (bs := [y1]), List.flatMap_append (ys := [y1])]; exact hrow2⟩ (by dsimp only; omega) ⟨rfl, rfl, rfl, rfl, rfl, rfl, rfl, trivial⟩ (l_ (c_ i_) (c_ be_)) (fun _ _ h => h)
end Go.Proofs.YtpdbbglpbngeiaaGreatDoor
namespace Go.Vs
open Go Go.Sx
def ax_ (a b : Str) : Fc := ⟨1, a, b, [], 0, 0⟩
def aN_ (a r b : Str) : Fc := ⟨2, a, b, r, 0, 0⟩
def aJ_ (a r : Str) (lo hi : Int) : Fc := ⟨3, a, [], r, lo, hi⟩
inductive One (p : List Pc) (A : List Str) (S : Fc → Prop) (M : Fc → Fc → Prop) : Fc → Prop
  | r1 {a : Str} (h : a ∈ A) : One p A S M (ax_ a a)
  | r2 {a : Str} (h : a ∈ A) : One p A S M (ax_ a [42])
  | r10 {a : Str} {x : Pc} (hx : x ∈ p) (hk : x.kind = 7) (h : a ∈ A) : One p A S M (aN_ a x.r a)
  | r3 {a : Str} {x : Pc} (hx : x ∈ p) (hk : x.kind = 1) (h : S (ax_ a x.a)) : One p A S M (ax_ a x.c)
  | r4 {a : Str} {x : Pc} (hx : x ∈ p) (hk : x.kind = 2) (h : S (ax_ a x.a)) (h' : S (ax_ a x.b)) : One p A S M (ax_ a x.c)
  | r5 {a : Str} {x : Pc} (hx : x ∈ p) (hk : x.kind = 3) (h : S (ax_ a x.a)) : One p A S M (aN_ a x.r x.c)
  | r6 {a b : Str} {x : Pc} (hx : x ∈ p) (hk : x.kind = 5) (h : S (aN_ a x.r b)) : One p A S M (aN_ a x.t b)
  | r7 {a b c : Str} {x : Pc} (hx : x ∈ p) (hk : x.kind = 6) (h : S (aN_ a x.r b)) (h' : S (aN_ b x.s c)) : One p A S M (aN_ a x.t c)
  | r8 {a b : Str} {x : Pc} (hx : x ∈ p) (hk : x.kind = 4) (h : S (aN_ a x.r b)) (h' : S (ax_ b x.a)) : One p A S M (ax_ a x.c)
  | r9 {a r b : Str} (h : S (aN_ a r b)) (h' : S (ax_ b [33])) : One p A S M (ax_ a [33])
  | r11 {a : Str} {x : Pc} (hx : x ∈ p) (hk : x.kind = 8) (h : S (ax_ a x.a)) : One p A S M (aJ_ a x.r x.lo x.hi)
  | r12 {a r : Str} {lo hi lo' hi' : Int} (h : S (aJ_ a r lo hi)) (h' : S (aJ_ a r lo' hi')) (hm : M (aJ_ a r lo hi) (aJ_ a r lo' hi')) (hl : max lo lo' ≤ min hi hi') : One p A S M (aJ_ a r (max lo lo') (min hi hi'))
  | r13 {a r : Str} {lo hi lo' hi' : Int} (h : S (aJ_ a r lo hi)) (h' : S (aJ_ a r lo' hi')) (hm : M (aJ_ a r lo hi) (aJ_ a r lo' hi')) (hl : min hi hi' < max lo lo') : One p A S M (ax_ a [33])
  | r14 {a : Str} {lo hi : Int} {x : Pc} (hx : x ∈ p) (hk : x.kind = 9) (h : S (aJ_ a x.r lo hi)) (h1 : x.lo ≤ lo) (h2 : hi ≤ x.hi) : One p A S M (ax_ a x.c)
abbrev eb_ (p : List Pc) (A : List Str) (S : Fc → Prop) : Fc → Prop := One p A S (fun _ _ => True)
theorem One.mono {p p' : List Pc} {A A' : List Str} {S S' : Fc → Prop} {M M' : Fc → Fc → Prop} (hp : ∀ x ∈ p, ∃ y ∈ p', ∃ n, { y with frm := n } = x) (hA : ∀ a ∈ A, a ∈ A') (hS : ∀ y, S y → S' y) (hM : ∀ x y, M x y → M' x y) {y : Fc} (h : One p A S M y) : One p' A' S' M' y := by
  cases h with
  | r1 h => exact .r1 (hA _ h)
  | r2 h => exact .r2 (hA _ h)
  | r10 hx hk h => obtain ⟨z, hz, n, rfl⟩ := hp _ hx; exact One.r10 (x := z) hz hk (hA _ h)
  | r3 hx hk h => obtain ⟨z, hz, n, rfl⟩ := hp _ hx; exact One.r3 (x := z) hz hk (hS _ h)
  | r4 hx hk h h' => obtain ⟨z, hz, n, rfl⟩ := hp _ hx; exact One.r4 (x := z) hz hk (hS _ h) (hS _ h')
  | r5 hx hk h => obtain ⟨z, hz, n, rfl⟩ := hp _ hx; exact One.r5 (x := z) hz hk (hS _ h)
  | r6 hx hk h => obtain ⟨z, hz, n, rfl⟩ := hp _ hx; exact One.r6 (x := z) hz hk (hS _ h)
  | r7 hx hk h h' => obtain ⟨z, hz, n, rfl⟩ := hp _ hx; exact One.r7 (x := z) hz hk (hS _ h) (hS _ h')
  | r8 hx hk h h' => obtain ⟨z, hz, n, rfl⟩ := hp _ hx; exact One.r8 (x := z) hz hk (hS _ h) (hS _ h')
  | r9 h h' => exact .r9 (hS _ h) (hS _ h')
  | r11 hx hk h => obtain ⟨z, hz, n, rfl⟩ := hp _ hx; exact One.r11 (x := z) hz hk (hS _ h)
  | r12 h h' hm hl => exact .r12 (hS _ h) (hS _ h') (hM _ _ hm) hl
  | r13 h h' hm hl => exact .r13 (hS _ h) (hS _ h') (hM _ _ hm) hl
  | r14 hx hk h h1 h2 => obtain ⟨z, hz, n, rfl⟩ := hp _ hx; exact One.r14 (x := z) hz hk (hS _ h) h1 h2
def Der (p : List Pc) (A : List Str) (y : Fc) : Prop := ∀ T : Fc → Prop, (∀ y, eb_ p A T y → T y) → T y
theorem Der.step {p : List Pc} {A : List Str} {y : Fc} (h : eb_ p A (Der p A) y) : Der p A y :=
  fun T hT => hT y (h.mono (fun x hx => ⟨x, hx, x.frm, rfl⟩) (fun _ h => h) (fun z hz => hz T hT) (fun _ _ h => h))
theorem Der.mono {p p' : List Pc} {A A' : List Str} (hp : ∀ x ∈ p, ∃ y ∈ p', ∃ n, { y with frm := n } = x) (hA : ∀ a ∈ A, a ∈ A') {y : Fc} (h : Der p A y) : Der p' A' y :=
  h _ fun _ hz => Der.step (hz.mono hp hA (fun _ h => h) (fun _ _ h => h))
theorem Der.least {p : List Pc} {A : List Str} {T : Fc → Prop} (hT : ∀ y, eb_ p A T y → T y) {y : Fc} (h : Der p A y) : T y := h T hT
structure Ky where
  kind : Int
  role : Str
  atom : Str
deriving DecidableEq
abbrev hO_ := Str × Str
def lat {K D : Type} [DecidableEq K] (l : List (K × D)) (k : K) : List D := (l.filter fun e => decide (e.1 = k)).map (·.2)
theorem cY_ {K D : Type} [DecidableEq K] {l : List (K × D)} {k : K} {d : D} : d ∈ lat l k ↔ (k, d) ∈ l := by
  unfold lat
  simp only [List.mem_map, List.mem_filter, decide_eq_true_eq]
  exact ⟨fun ⟨⟨a, b⟩, ⟨h1, h2⟩, h3⟩ => by subst h2; subst h3; exact h1, fun h => ⟨(k, d), ⟨h, rfl⟩, rfl⟩⟩
theorem kl_ {K D : Type} [DecidableEq K] (l m : List (K × D)) (k : K) : lat (l ++ m) k = lat l k ++ lat m k := by simp [lat]
theorem fc_ {K D : Type} [DecidableEq K] (l : List (K × D)) (k : K) : (lat l k).length ≤ l.length := by
  simp only [lat, List.length_map]; exact List.length_filter_le _ _
def cC_ (x : Pc) : List (Ky × Pc) :=
  if x.kind = 1 ∨ x.kind = 3 ∨ x.kind = 8 then [(⟨x.kind, [], x.a⟩, x)]
  else if x.kind = 2 then if x.b ≠ x.a then [(⟨x.kind, [], x.a⟩, x), (⟨x.kind, [], x.b⟩, x)] else [(⟨x.kind, [], x.a⟩, x)]
  else if x.kind = 4 then [(⟨x.kind, [], x.a⟩, x), (⟨x.kind, x.r, x.a⟩, x)]
  else if x.kind = 5 ∨ x.kind = 9 then [(⟨x.kind, x.r, []⟩, x)]
  else if x.kind = 6 then [(⟨x.kind, x.r, []⟩, x), (⟨x.kind, [], x.s⟩, x)]
  else []
def Pc.zf (x : Pc) : Pc := { x with frm := 0 }
def uniq : List Pc → List Pc → List Pc
  | l, [] => l
  | l, x :: r => uniq (if x.zf ∈ l then l else l ++ [x.zf]) r
theorem fL_ : ∀ (r l : List Pc) (x : Pc), x ∈ uniq l r ↔ x ∈ l ∨ ∃ y ∈ r, y.zf = x
  | [], l, x => by simp [uniq]
  | y :: r, l, x => by
    rw [uniq, fL_ r]
    by_cases h : y.zf ∈ l
    · rw [if_pos h]
      constructor
      · rintro (h1 | ⟨z, h1, h2⟩)
        · exact .inl h1
        · exact .inr ⟨z, by simp [h1], h2⟩
      · rintro (h1 | ⟨z, h1, h2⟩)
        · exact .inl h1
        · rcases List.mem_cons.1 h1 with rfl | h1
          · exact .inl (h2 ▸ h)
          · exact .inr ⟨z, h1, h2⟩
    · rw [if_neg h]
      simp only [List.mem_append, List.mem_cons, List.not_mem_nil, or_false]
      constructor
      · rintro ((h1 | h1) | ⟨z, h1, h2⟩)
        · exact .inl h1
        · exact .inr ⟨y, .inl rfl, h1.symm⟩
        · exact .inr ⟨z, .inr h1, h2⟩
      · rintro (h1 | ⟨z, h1 | h1, h2⟩)
        · exact .inl (.inl h1)
        · subst h1; exact .inl (.inr h2.symm)
        · exact .inr ⟨z, h1, h2⟩
theorem fM_ : ∀ (r l : List Pc), (uniq l r).length ≤ l.length + r.length
  | [], l => by simp [uniq]
  | y :: r, l => by
    rw [uniq]
    have := fM_ r (if y.zf ∈ l then l else l ++ [y.zf])
    have h2 : (if y.zf ∈ l then l else l ++ [y.zf]).length ≤ l.length + 1 := by split <;> simp
    simp only [List.length_cons]
    omega
def aP_ (ps : List Pc) : List (Ky × Pc) := ps.flatMap cC_
def ak_ (ps : List Pc) : List Str := (ps.filter fun x => decide (x.kind = 7)).map (·.r)
theorem qE_ (x : Pc) : ∀ e ∈ cC_ x, e.2 = x ∧ e.1.kind = x.kind := by
  unfold cC_
  repeat' split
  all_goals simp
theorem dM_ {x y : Pc} {k : Ky} (h : (k, y) ∈ cC_ x) : y = x ∧ k.kind = x.kind := qE_ x _ h
def Pc.rok (x : Pc) : Prop := (x.kind = 4 ∨ x.kind = 5 ∨ x.kind = 6 ∨ x.kind = 9 ∨ x.kind = 3 ∨ x.kind = 7 ∨ x.kind = 8 → x.r ≠ []) ∧ (x.kind = 6 → x.s ≠ [] ∧ x.t ≠ []) ∧ (x.kind = 5 → x.t ≠ [])
theorem fH_ {ps : List Pc} {k : Ky} {x : Pc} : x ∈ lat (aP_ ps) k ↔ x ∈ ps ∧ (k, x) ∈ cC_ x := by
  rw [cY_, aP_, List.mem_flatMap]
  constructor
  · rintro ⟨y, hy, h⟩
    obtain ⟨rfl, _⟩ := dM_ h
    exact ⟨hy, h⟩
  · rintro ⟨h1, h2⟩
    exact ⟨x, h1, h2⟩
theorem pm1 {ps : List Pc} {b : Str} {x : Pc} : x ∈ lat (aP_ ps) ⟨1, [], b⟩ ↔ x ∈ ps ∧ x.kind = 1 ∧ x.a = b := by
  rw [fH_]
  refine and_congr_right fun _ => ⟨fun h => ?_, fun ⟨h, h'⟩ => ?_⟩
  · have hk := (dM_ h).2
    simp only at hk
    simp [cC_, ← hk] at h
    exact ⟨hk.symm, h.symm⟩
  · subst h'; simp [cC_, h]
theorem pm2 {ps : List Pc} {b : Str} {x : Pc} : x ∈ lat (aP_ ps) ⟨2, [], b⟩ ↔ x ∈ ps ∧ x.kind = 2 ∧ (x.a = b ∨ x.b = b) := by
  rw [fH_]
  refine and_congr_right fun _ => ⟨fun h => ?_, fun ⟨h, h'⟩ => ?_⟩
  · have hk := (dM_ h).2
    simp only at hk
    simp [cC_, ← hk] at h
    split at h
    · simp at h; exact ⟨hk.symm, .inl h.symm⟩
    · simp at h; rcases h with h | h
      · exact ⟨hk.symm, .inl h.symm⟩
      · exact ⟨hk.symm, .inr h.symm⟩
  · by_cases e : x.b = x.a
    · have : x.a = b := h'.elim id (fun q => e ▸ q)
      subst this; simp [cC_, h, e]
    · rcases h' with rfl | rfl <;> simp [cC_, h, e]
theorem pm3 {ps : List Pc} {b : Str} {x : Pc} : x ∈ lat (aP_ ps) ⟨3, [], b⟩ ↔ x ∈ ps ∧ x.kind = 3 ∧ x.a = b := by
  rw [fH_]
  refine and_congr_right fun _ => ⟨fun h => ?_, fun ⟨h, h'⟩ => ?_⟩
  · have hk := (dM_ h).2
    simp only at hk
    simp [cC_, ← hk] at h
    exact ⟨hk.symm, h.symm⟩
  · subst h'; simp [cC_, h]
theorem pm8 {ps : List Pc} {b : Str} {x : Pc} : x ∈ lat (aP_ ps) ⟨8, [], b⟩ ↔ x ∈ ps ∧ x.kind = 8 ∧ x.a = b := by
  rw [fH_]
  refine and_congr_right fun _ => ⟨fun h => ?_, fun ⟨h, h'⟩ => ?_⟩
  · have hk := (dM_ h).2
    simp only at hk
    simp [cC_, ← hk] at h
    exact ⟨hk.symm, h.symm⟩
  · subst h'; simp [cC_, h]
theorem pm5 {ps : List Pc} {r : Str} {x : Pc} : x ∈ lat (aP_ ps) ⟨5, r, []⟩ ↔ x ∈ ps ∧ x.kind = 5 ∧ x.r = r := by
  rw [fH_]
  refine and_congr_right fun _ => ⟨fun h => ?_, fun ⟨h, h'⟩ => ?_⟩
  · have hk := (dM_ h).2
    simp only at hk
    simp [cC_, ← hk] at h
    exact ⟨hk.symm, h.symm⟩
  · subst h'; simp [cC_, h]
theorem pm9 {ps : List Pc} {r : Str} {x : Pc} : x ∈ lat (aP_ ps) ⟨9, r, []⟩ ↔ x ∈ ps ∧ x.kind = 9 ∧ x.r = r := by
  rw [fH_]
  refine and_congr_right fun _ => ⟨fun h => ?_, fun ⟨h, h'⟩ => ?_⟩
  · have hk := (dM_ h).2
    simp only at hk
    simp [cC_, ← hk] at h
    exact ⟨hk.symm, h.symm⟩
  · subst h'; simp [cC_, h]
theorem pm6 {ps : List Pc} {r : Str} (hn : r ≠ []) {x : Pc} : x ∈ lat (aP_ ps) ⟨6, r, []⟩ ↔ x ∈ ps ∧ x.kind = 6 ∧ x.r = r := by
  rw [fH_]
  refine and_congr_right fun hx => ⟨fun h => ?_, fun ⟨h, h'⟩ => ?_⟩
  · have hk := (dM_ h).2
    simp only at hk
    simp [cC_, ← hk, hn] at h
    exact ⟨hk.symm, h.symm⟩
  · subst h'; simp [cC_, h]
theorem pm6' {ps : List Pc} {s : Str} {x : Pc} (hn : s ≠ []) : x ∈ lat (aP_ ps) ⟨6, [], s⟩ ↔ x ∈ ps ∧ x.kind = 6 ∧ x.s = s := by
  rw [fH_]
  refine and_congr_right fun hx => ⟨fun h => ?_, fun ⟨h, h'⟩ => ?_⟩
  · have hk := (dM_ h).2
    simp only at hk
    simp [cC_, ← hk, hn] at h
    exact ⟨hk.symm, h.symm⟩
  · subst h'; simp [cC_, h]
theorem pm4 {ps : List Pc} (hr : ∀ x ∈ ps, x.rok) {b : Str} {x : Pc} : x ∈ lat (aP_ ps) ⟨4, [], b⟩ ↔ x ∈ ps ∧ x.kind = 4 ∧ x.a = b := by
  rw [fH_]
  refine and_congr_right fun hx => ⟨fun h => ?_, fun ⟨h, h'⟩ => ?_⟩
  · have hk := (dM_ h).2
    simp only at hk
    have h0 := (hr x hx).1 (.inl hk.symm)
    simp [cC_, ← hk] at h
    refine ⟨hk.symm, h.elim (fun q => q.symm) (fun q => absurd q.1 h0)⟩
  · subst h'; simp [cC_, h]
theorem pm4' {ps : List Pc} {r b : Str} (hn : r ≠ []) {x : Pc} : x ∈ lat (aP_ ps) ⟨4, r, b⟩ ↔ x ∈ ps ∧ x.kind = 4 ∧ x.r = r ∧ x.a = b := by
  rw [fH_]
  refine and_congr_right fun hx => ⟨fun h => ?_, fun ⟨h, h', h''⟩ => ?_⟩
  · have hk := (dM_ h).2
    simp only at hk
    simp [cC_, ← hk, hn] at h
    exact ⟨hk.symm, h.1.symm, h.2.symm⟩
  · subst h' h''; simp [cC_, h]
structure Ix where
  above : List (Str × Str)
  under : List (Str × Str)
  frm : List (hO_ × Str)
  into : List (hO_ × Str)
  ranges : List (hO_ × Fc)
  firms : List (hO_ × Fc)
def Ix.nil : Ix := ⟨[], [], [], [], [], []⟩
def Ix.add (x : Ix) (firm : Bool) (f : Fc) : Ix :=
  if f.kind = 1 then { x with above := x.above ++ [(f.a, f.b)] }
  else if f.kind = 2 then { x with under := x.under ++ [(f.b, f.a)], frm := x.frm ++ [((f.a, f.r), f.b)], into := x.into ++ [((f.b, f.r), f.a)] }
  else if f.kind = 3 then { x with ranges := x.ranges ++ [((f.a, f.r), f)], firms := if firm then x.firms ++ [((f.a, f.r), f)] else x.firms }
  else x
structure Ix.of (x : Ix) (S Fm : Fc → Prop) : Prop where
  above : ∀ a b, (a, b) ∈ x.above ↔ ∃ f, S f ∧ f.kind = 1 ∧ f.a = a ∧ f.b = b
  under : ∀ b a, (b, a) ∈ x.under ↔ ∃ f, S f ∧ f.kind = 2 ∧ f.a = a ∧ f.b = b
  frm : ∀ a r b, ((a, r), b) ∈ x.frm ↔ ∃ f, S f ∧ f.kind = 2 ∧ f.a = a ∧ f.r = r ∧ f.b = b
  into : ∀ a r b, ((b, r), a) ∈ x.into ↔ ∃ f, S f ∧ f.kind = 2 ∧ f.a = a ∧ f.r = r ∧ f.b = b
  ranges : ∀ a r f, ((a, r), f) ∈ x.ranges ↔ S f ∧ f.kind = 3 ∧ f.a = a ∧ f.r = r
  firms : ∀ a r f, ((a, r), f) ∈ x.firms ↔ S f ∧ Fm f ∧ f.kind = 3 ∧ f.a = a ∧ f.r = r
theorem Ix.of_nil (Fm : Fc → Prop) : Ix.nil.of (fun _ => False) Fm := by
  constructor <;> simp [Ix.nil]
theorem Ix.of_add {x : Ix} {S Fm : Fc → Prop} (h : x.of S Fm) (f : Fc) {b : Bool} (hb : b = true ↔ Fm f) : (x.add b f).of (fun y => S y ∨ y = f) Fm := by
  have key : ∀ (Q : Fc → Prop), (∃ y, (S y ∨ y = f) ∧ Q y) ↔ (∃ y, S y ∧ Q y) ∨ Q f := fun Q => by
    constructor
    · rintro ⟨y, h1 | rfl, h2⟩
      · exact .inl ⟨y, h1, h2⟩
      · exact .inr h2
    · rintro (⟨y, h1, h2⟩ | h2)
      · exact ⟨y, .inl h1, h2⟩
      · exact ⟨f, .inr rfl, h2⟩
  unfold Ix.add
  split
  · rename_i hk
    constructor
    · intro a c; rw [key, ← h.above]; simp [hk]; exact or_congr_right ⟨fun ⟨p, q⟩ => ⟨p.symm, q.symm⟩, fun ⟨p, q⟩ => ⟨p.symm, q.symm⟩⟩
    · intro a c; rw [key, ← h.under]; simp [hk]
    · intro a r c; rw [key, ← h.frm]; simp [hk]
    · intro a r c; rw [key, ← h.into]; simp [hk]
    · intro a r y; rw [h.ranges]; constructor
      · exact fun q => ⟨.inl q.1, q.2⟩
      · rintro ⟨q | rfl, q2⟩
        · exact ⟨q, q2⟩
        · rw [hk] at q2; exact absurd q2.1 (by decide)
    · intro a r y; rw [h.firms]; constructor
      · exact fun q => ⟨.inl q.1, q.2⟩
      · rintro ⟨q | rfl, q2⟩
        · exact ⟨q, q2⟩
        · rw [hk] at q2; exact absurd q2.2.1 (by decide)
  · split
    · rename_i hk
      constructor
      · intro a c; rw [key, ← h.above]; simp [hk]
      · intro a c; rw [key, ← h.under]; simp [hk]; exact or_congr_right ⟨fun ⟨p, q⟩ => ⟨q.symm, p.symm⟩, fun ⟨p, q⟩ => ⟨q.symm, p.symm⟩⟩
      · intro a r c; rw [key, ← h.frm]; simp [hk]; exact or_congr_right ⟨fun ⟨⟨p, q⟩, s⟩ => ⟨p.symm, q.symm, s.symm⟩, fun ⟨p, q, s⟩ => ⟨⟨p.symm, q.symm⟩, s.symm⟩⟩
      · intro a r c; rw [key, ← h.into]; simp [hk]; exact or_congr_right ⟨fun ⟨⟨p, q⟩, s⟩ => ⟨s.symm, q.symm, p.symm⟩, fun ⟨p, q, s⟩ => ⟨⟨s.symm, q.symm⟩, p.symm⟩⟩
      · intro a r y; rw [h.ranges]; constructor
        · exact fun q => ⟨.inl q.1, q.2⟩
        · rintro ⟨q | rfl, q2⟩
          · exact ⟨q, q2⟩
          · rw [hk] at q2; exact absurd q2.1 (by decide)
      · intro a r y; rw [h.firms]; constructor
        · exact fun q => ⟨.inl q.1, q.2⟩
        · rintro ⟨q | rfl, q2⟩
          · exact ⟨q, q2⟩
          · rw [hk] at q2; exact absurd q2.2.1 (by decide)
    · split
      · rename_i hk
        constructor
        · intro a c; rw [key, ← h.above]; simp [hk]
        · intro a c; rw [key, ← h.under]; simp [hk]
        · intro a r c; rw [key, ← h.frm]; simp [hk]
        · intro a r c; rw [key, ← h.into]; simp [hk]
        · intro a r y
          simp only [List.mem_append, List.mem_singleton, h.ranges, Prod.mk.injEq]
          constructor
          · rintro (⟨q, q2⟩ | ⟨⟨rfl, rfl⟩, rfl⟩)
            · exact ⟨.inl q, q2⟩
            · exact ⟨.inr rfl, hk, rfl, rfl⟩
          · rintro ⟨q | rfl, q2, rfl, rfl⟩
            · exact .inl ⟨q, q2, rfl, rfl⟩
            · exact .inr ⟨⟨rfl, rfl⟩, rfl⟩
        · intro a r y
          cases b with
          | false =>
            simp only [Bool.false_eq_true, if_false, h.firms]
            constructor
            · exact fun q => ⟨.inl q.1, q.2⟩
            · rintro ⟨q | rfl, q2⟩
              · exact ⟨q, q2⟩
              · exact absurd (hb.2 q2.1) (by decide)
          | true =>
            simp only [if_true, List.mem_append, List.mem_singleton, h.firms, Prod.mk.injEq]
            constructor
            · rintro (⟨q, q2⟩ | ⟨⟨rfl, rfl⟩, rfl⟩)
              · exact ⟨.inl q, q2⟩
              · exact ⟨.inr rfl, hb.1 rfl, hk, rfl, rfl⟩
            · rintro ⟨q | rfl, q2, q3, rfl, rfl⟩
              · exact .inl ⟨q, q2, q3, rfl, rfl⟩
              · exact .inr ⟨⟨rfl, rfl⟩, rfl⟩
      · rename_i h1 h2 h3
        constructor
        · intro a c; rw [key, ← h.above]; simp [h1]
        · intro a c; rw [key, ← h.under]; simp [h2]
        · intro a r c; rw [key, ← h.frm]; simp [h2]
        · intro a r c; rw [key, ← h.into]; simp [h2]
        · intro a r y; rw [h.ranges]; constructor
          · exact fun q => ⟨.inl q.1, q.2⟩
          · rintro ⟨q | rfl, q2⟩
            · exact ⟨q, q2⟩
            · exact absurd q2.1 h3
        · intro a r y; rw [h.firms]; constructor
          · exact fun q => ⟨.inl q.1, q.2⟩
          · rintro ⟨q | rfl, q2⟩
            · exact ⟨q, q2⟩
            · exact absurd q2.2.1 h3
theorem Ix.of_firm {x : Ix} {S Fm Fm' : Fc → Prop} (h : x.of S Fm) (hf : ∀ y, S y → (Fm y ↔ Fm' y)) : x.of S Fm' :=
  ⟨h.above, h.under, h.frm, h.into, h.ranges, fun a r f => by rw [h.firms]; exact and_congr_right fun hs => by rw [hf f hs]⟩
section
variable (pm : List (Ky × Pc)) (x : Ix) (f : Fc)
def gd_ : List Fc := (lat pm ⟨1, [], f.b⟩).map fun y => ax_ f.a y.c
def kQ_ : List Fc := (lat pm ⟨3, [], f.b⟩).map fun y => aN_ f.a y.r y.c
def ga_ : List Fc := (lat pm ⟨5, f.r, []⟩).map fun y => aN_ f.a y.t f.b
def ff_ : List Fc := (lat pm ⟨6, f.r, []⟩).flatMap fun y => (lat x.frm (f.b, y.s)).map fun c => aN_ f.a y.t c
def gy_ : List Fc := (lat pm ⟨6, [], f.r⟩).flatMap fun y => (lat x.into (f.a, y.r)).map fun a => aN_ a y.t f.b
def fi_ : List Fc := (lat x.above f.b).flatMap fun c => (lat pm ⟨4, f.r, c⟩).map fun y => ax_ f.a y.c
def fj_ : List Fc := (lat pm ⟨4, [], f.b⟩).flatMap fun y => (lat x.into (f.a, y.r)).map fun a => ax_ a y.c
def dk_ : List Fc := if f.b = [33] then (lat x.under f.a).map fun a => ax_ a [33] else []
def py_ : List Fc := ((lat pm ⟨9, f.r, []⟩).filter fun y => decide (y.lo ≤ f.lo ∧ f.hi ≤ y.hi)).map fun y => ax_ f.a y.c
def dx_ (y : Fc) : Fc := aJ_ f.a f.r (max f.lo y.lo) (min f.hi y.hi)
def cL_ (y : Fc) : Bool := decide (min f.hi y.hi < max f.lo y.lo)
def ej_ (firm : Bool) : List Fc := if firm then lat x.ranges (f.a, f.r) else lat x.firms (f.a, f.r)
def fz_ (l : List Fc) : List Fc := (l.filter fun y => !cL_ f y && decide (dx_ f y ≠ f ∧ dx_ f y ≠ y)).map (dx_ f)
def gB_ (l : List Fc) : List Fc := if l.any (cL_ f) then [ax_ f.a [33]] else []
end
section
variable (stp : Fc → List Fc → List Fc) (kof : List Fc → List Fc)
def emits (L : List Fc) (s : List Fc) : List Fc := L.foldl (fun s y => stp y s) s
def ea_ (f : Fc) (l : List Pc) (s : List Fc) : List Fc := l.foldl (fun s y => if ax_ f.a y.a ∈ kof s ∧ ax_ f.a y.b ∈ kof s then stp (ax_ f.a y.c) s else s) s
def cq_ (f : Fc) (l : List Pc) (s : List Fc × List Fc) : List Fc × List Fc := l.foldl (fun s y => (stp (aJ_ f.a y.r y.lo y.hi) s.1, if aJ_ f.a y.r y.lo y.hi ∈ kof s.1 then s.2 else aJ_ f.a y.r y.lo y.hi :: s.2)) s
end
theorem aU_ (stp : Fc → List Fc → List Fc) (L M : List Fc) (s : List Fc) : emits stp (L ++ M) s = emits stp M (emits stp L s) := by simp [emits]
structure Grows (stp : Fc → List Fc → List Fc) (kof : List Fc → List Fc) : Prop where
  up : ∀ y s z, z ∈ kof s → z ∈ kof (stp y s)
theorem Grows.emits {stp : Fc → List Fc → List Fc} {kof : List Fc → List Fc} (h : Grows stp kof) : ∀ (L s : List Fc) (z : Fc), z ∈ kof s → z ∈ kof (emits stp L s)
  | [], _, _, hz => hz
  | y :: L, s, z, hz => h.emits L _ z (h.up y s z hz)
theorem el_ {stp : Fc → List Fc → List Fc} {kof : List Fc → List Fc} (h : Grows stp kof) (f : Fc) : ∀ (l : List Pc) (s : List Fc),
    ∃ L, ea_ stp kof f l s = emits stp L s ∧ (∀ y ∈ L, ∃ x ∈ l, y = ax_ f.a x.c ∧ ax_ f.a x.a ∈ kof (ea_ stp kof f l s) ∧ ax_ f.a x.b ∈ kof (ea_ stp kof f l s)) ∧ (∀ x ∈ l, ax_ f.a x.a ∈ kof s → ax_ f.a x.b ∈ kof s → ax_ f.a x.c ∈ L)
  | [], s => ⟨[], rfl, by simp, by simp⟩
  | x :: l, s => by
    by_cases hc : ax_ f.a x.a ∈ kof s ∧ ax_ f.a x.b ∈ kof s
    · obtain ⟨L, h1, h2, h3⟩ := el_ h f l (stp (ax_ f.a x.c) s)
      have e : ea_ stp kof f (x :: l) s = ea_ stp kof f l (stp (ax_ f.a x.c) s) := by simp only [ea_, List.foldl_cons, if_pos hc]
      refine ⟨ax_ f.a x.c :: L, by rw [e, h1]; rfl, fun y hy => ?_, fun z hz ha hb => ?_⟩
      · rw [e]
        rcases List.mem_cons.1 hy with rfl | hy
        · refine ⟨x, by simp, rfl, ?_, ?_⟩ <;> rw [h1] <;> exact h.emits L _ _ (h.up _ _ _ (by first | exact hc.1 | exact hc.2))
        · obtain ⟨z, hz, q⟩ := h2 y hy
          exact ⟨z, by simp [hz], q⟩
      · rcases List.mem_cons.1 hz with rfl | hz
        · simp
        · exact List.mem_cons_of_mem _ (h3 z hz (h.up _ _ _ ha) (h.up _ _ _ hb))
    · obtain ⟨L, h1, h2, h3⟩ := el_ h f l s
      have e : ea_ stp kof f (x :: l) s = ea_ stp kof f l s := by simp only [ea_, List.foldl_cons, if_neg hc]
      refine ⟨L, by rw [e, h1], fun y hy => ?_, fun z hz ha hb => ?_⟩
      · rw [e]
        obtain ⟨z, hz, q⟩ := h2 y hy
        exact ⟨z, by simp [hz], q⟩
      · rcases List.mem_cons.1 hz with rfl | hz
        · exact absurd ⟨ha, hb⟩ hc
        · exact h3 z hz ha hb
theorem ee_ (stp : Fc → List Fc → List Fc) (kof : List Fc → List Fc) (f : Fc) : ∀ (l : List Pc) (s fm : List Fc), (cq_ stp kof f l (s, fm)).1 = emits stp (l.map fun y => aJ_ f.a y.r y.lo y.hi) s
  | [], _, _ => rfl
  | x :: l, s, fm => by
    simp only [cq_, List.foldl_cons, List.map_cons, emits]
    exact ee_ stp kof f l _ _
theorem fm_ {stp : Fc → List Fc → List Fc} {kof : List Fc → List Fc} (h : Grows stp kof) (f : Fc) : ∀ (l : List Pc) (s fm : List Fc) (z : Fc), z ∈ (cq_ stp kof f l (s, fm)).2 ↔ z ∈ fm ∨ (z ∉ kof s ∧ z ∈ (cq_ stp kof f l (s, fm)).2)
  | [], s, fm, z => by simp [cq_]
  | x :: l, s, fm, z => by
    have ih := fm_ h f l (stp (aJ_ f.a x.r x.lo x.hi) s) (if aJ_ f.a x.r x.lo x.hi ∈ kof s then fm else aJ_ f.a x.r x.lo x.hi :: fm) z
    have e : cq_ stp kof f (x :: l) (s, fm) = cq_ stp kof f l (stp (aJ_ f.a x.r x.lo x.hi) s, if aJ_ f.a x.r x.lo x.hi ∈ kof s then fm else aJ_ f.a x.r x.lo x.hi :: fm) := rfl
    rw [e]
    constructor
    · intro hz
      rcases ih.1 hz with h1 | h1
      · split at h1
        · exact .inl h1
        · rename_i hn
          rcases List.mem_cons.1 h1 with rfl | h1
          · exact .inr ⟨hn, hz⟩
          · exact .inl h1
      · exact .inr ⟨fun q => h1.1 (h.up _ _ _ q), hz⟩
    · rintro (h1 | h1)
      · exact ih.2 (.inl (by split <;> simp [h1]))
      · exact h1.2
theorem jA_ {stp : Fc → List Fc → List Fc} {kof : List Fc → List Fc} (f : Fc) : ∀ (l : List Pc) (s fm : List Fc) (z : Fc), z ∈ (cq_ stp kof f l (s, fm)).2 → z ∈ fm ∨ ∃ y ∈ l, z = aJ_ f.a y.r y.lo y.hi
  | [], s, fm, z, hz => .inl hz
  | x :: l, s, fm, z, hz => by
    have e : cq_ stp kof f (x :: l) (s, fm) = cq_ stp kof f l (stp (aJ_ f.a x.r x.lo x.hi) s, if aJ_ f.a x.r x.lo x.hi ∈ kof s then fm else aJ_ f.a x.r x.lo x.hi :: fm) := rfl
    rw [e] at hz
    rcases jA_ f l _ _ z hz with h1 | ⟨y, hy, h1⟩
    · split at h1
      · exact .inl h1
      · rcases List.mem_cons.1 h1 with rfl | h1
        · exact .inr ⟨x, by simp, rfl⟩
        · exact .inl h1
    · exact .inr ⟨y, by simp [hy], h1⟩
def Fc.form (y : Fc) : Prop := (∃ a b, y = ax_ a b) ∨ (∃ a r b, y = aN_ a r b ∧ r ≠ []) ∨ (∃ a r lo hi, y = aJ_ a r lo hi ∧ r ≠ [] ∧ -1099511627776 ≤ lo ∧ lo ≤ hi ∧ hi ≤ 1099511627776)
structure Pc.vok (x : Pc) : Prop where
  rok : x.rok
  num : x.kind = 8 ∨ x.kind = 9 → -1099511627776 ≤ x.lo ∧ x.lo ≤ x.hi ∧ x.hi ≤ 1099511627776
theorem ek_ (a b : Str) : (ax_ a b).form := .inl ⟨a, b, rfl⟩
theorem ks_ {f : Fc} (h : f.form) (hk : f.kind = 1) : f = ax_ f.a f.b := by
  rcases h with ⟨a, b, rfl⟩ | ⟨a, r, b, rfl, _⟩ | ⟨a, r, lo, hi, rfl, _⟩
  · rfl
  · simp [aN_] at hk
  · simp [aJ_] at hk
theorem im_ {f : Fc} (h : f.form) (hk : f.kind = 2) : f = aN_ f.a f.r f.b ∧ f.r ≠ [] := by
  rcases h with ⟨a, b, rfl⟩ | ⟨a, r, b, rfl, h⟩ | ⟨a, r, lo, hi, rfl, _⟩
  · simp [ax_] at hk
  · exact ⟨rfl, h⟩
  · simp [aJ_] at hk
theorem fs_ {f : Fc} (h : f.form) (hk : f.kind = 3) : f = aJ_ f.a f.r f.lo f.hi ∧ f.r ≠ [] ∧ -1099511627776 ≤ f.lo ∧ f.lo ≤ f.hi ∧ f.hi ≤ 1099511627776 := by
  rcases h with ⟨a, b, rfl⟩ | ⟨a, r, b, rfl, _⟩ | ⟨a, r, lo, hi, rfl, h⟩
  · simp [ax_] at hk
  · simp [aN_] at hk
  · exact ⟨rfl, h⟩
theorem fh_ {f : Fc} (h : f.form) : f.kind = 1 ∨ f.kind = 2 ∨ f.kind = 3 := by
  rcases h with ⟨a, b, rfl⟩ | ⟨a, r, b, rfl, h⟩ | ⟨a, r, lo, hi, rfl, _⟩ <;> simp [ax_, aN_, aJ_]
theorem One.form {p : List Pc} {A : List Str} {S : Fc → Prop} {M : Fc → Fc → Prop} (hp : ∀ x ∈ p, x.vok) (hS : ∀ y, S y → y.form) {y : Fc} (h : One p A S M y) : y.form := by
  have link_r : ∀ {a r b : Str}, S (aN_ a r b) → r ≠ [] := fun h => (im_ (hS _ h) rfl).2
  have span_r : ∀ {a r : Str} {lo hi : Int}, S (aJ_ a r lo hi) → r ≠ [] ∧ -1099511627776 ≤ lo ∧ lo ≤ hi ∧ hi ≤ 1099511627776 := fun h => (fs_ (hS _ h) rfl).2
  cases h with
  | r1 _ => exact ek_ _ _
  | r2 _ => exact ek_ _ _
  | r10 hx hk _ => exact .inr (.inl ⟨_, _, _, rfl, (hp _ hx).rok.1 (by simp [hk])⟩)
  | r3 _ _ _ => exact ek_ _ _
  | r4 _ _ _ _ => exact ek_ _ _
  | r5 hx hk _ => exact .inr (.inl ⟨_, _, _, rfl, (hp _ hx).rok.1 (by simp [hk])⟩)
  | r6 hx hk _ => exact .inr (.inl ⟨_, _, _, rfl, (hp _ hx).rok.2.2 hk⟩)
  | r7 hx hk _ _ => exact .inr (.inl ⟨_, _, _, rfl, ((hp _ hx).rok.2.1 hk).2⟩)
  | r8 _ _ _ _ => exact ek_ _ _
  | r9 _ _ => exact ek_ _ _
  | r11 hx hk _ => exact .inr (.inr ⟨_, _, _, _, rfl, (hp _ hx).rok.1 (by simp [hk]), (hp _ hx).num (.inl hk)⟩)
  | r12 h h' _ hl => exact .inr (.inr ⟨_, _, _, _, rfl, (span_r h).1, by have := span_r h; omega, hl, by have := span_r h; omega⟩)
  | r13 _ _ _ _ => exact ek_ _ _
  | r14 _ _ _ _ _ => exact ek_ _ _
section
variable {ps : List Pc} {A : List Str} {x : Ix} {S Fm : Fc → Prop} {f : Fc} {kn : List Fc}
theorem hA_ (hk : f.kind = 1) (hf : f.form) (hkn : f ∈ kn) : ∀ y ∈ gd_ (aP_ ps) f, eb_ ps A (· ∈ kn) y := by
  intro y hy
  obtain ⟨z, hz, rfl⟩ := List.mem_map.1 hy
  obtain ⟨h1, h2, h3⟩ := pm1.1 hz
  exact .r3 h1 h2 (by rw [h3, ← ks_ hf hk]; exact hkn)
theorem jJ_ (hk : f.kind = 1) (hf : f.form) (hkn : f ∈ kn) : ∀ y ∈ kQ_ (aP_ ps) f, eb_ ps A (· ∈ kn) y := by
  intro y hy
  obtain ⟨z, hz, rfl⟩ := List.mem_map.1 hy
  obtain ⟨h1, h2, h3⟩ := pm3.1 hz
  exact .r5 h1 h2 (by rw [h3, ← ks_ hf hk]; exact hkn)
theorem iT_ (hk : f.kind = 1) (hf : f.form) (hkn : f ∈ kn) : ∀ y ∈ (lat (aP_ ps) ⟨8, [], f.b⟩).map (fun y => aJ_ f.a y.r y.lo y.hi), eb_ ps A (· ∈ kn) y := by
  intro y hy
  obtain ⟨z, hz, rfl⟩ := List.mem_map.1 hy
  obtain ⟨h1, h2, h3⟩ := pm8.1 hz
  exact .r11 h1 h2 (by rw [h3, ← ks_ hf hk]; exact hkn)
theorem hy_ (hk : f.kind = 2) (hf : f.form) (hkn : f ∈ kn) : ∀ y ∈ ga_ (aP_ ps) f, eb_ ps A (· ∈ kn) y := by
  intro y hy
  obtain ⟨z, hz, rfl⟩ := List.mem_map.1 hy
  obtain ⟨h1, h2, h3⟩ := pm5.1 hz
  exact .r6 h1 h2 (by rw [h3, ← (im_ hf hk).1]; exact hkn)
theorem jr_ {hS : ∀ y, S y → y.form} {a r b : Str} (h : ∃ g, S g ∧ g.kind = 2 ∧ g.a = a ∧ g.r = r ∧ g.b = b) : S (aN_ a r b) := by
  obtain ⟨g, h1, h2, rfl, rfl, rfl⟩ := h
  rw [← (im_ (hS g h1) h2).1]; exact h1
theorem ix_sub {hS : ∀ y, S y → y.form} {a b : Str} (h : ∃ g, S g ∧ g.kind = 1 ∧ g.a = a ∧ g.b = b) : S (ax_ a b) := by
  obtain ⟨g, h1, h2, rfl, rfl⟩ := h
  rw [← ks_ (hS g h1) h2]; exact h1
theorem jj_ (hx : x.of S Fm) (hS : ∀ y, S y → y.form) (hkS : ∀ y, S y → y ∈ kn) (hk : f.kind = 2) (hf : f.form) (hkn : f ∈ kn) : ∀ y ∈ ff_ (aP_ ps) x f ++ gy_ (aP_ ps) x f, eb_ ps A (· ∈ kn) y := by
  intro y hy
  obtain ⟨e, hn⟩ := im_ hf hk
  rcases List.mem_append.1 hy with hy | hy
  · obtain ⟨z, hz, hy⟩ := List.mem_flatMap.1 hy
    obtain ⟨c, hc, rfl⟩ := List.mem_map.1 hy
    obtain ⟨h1, h2, h3⟩ := (pm6 hn).1 hz
    exact .r7 h1 h2 (by rw [h3, ← e]; exact hkn) (hkS _ (jr_ (hS := hS) ((hx.frm _ _ _).1 (cY_.1 hc))))
  · obtain ⟨z, hz, hy⟩ := List.mem_flatMap.1 hy
    obtain ⟨c, hc, rfl⟩ := List.mem_map.1 hy
    obtain ⟨h1, h2, h3⟩ := (pm6' hn).1 hz
    exact .r7 h1 h2 (hkS _ (jr_ (hS := hS) ((hx.into _ _ _).1 (cY_.1 hc)))) (by rw [h3, ← e]; exact hkn)
theorem gX_ (hx : x.of S Fm) (hS : ∀ y, S y → y.form) (hkS : ∀ y, S y → y ∈ kn) (hk : f.kind = 2) (hf : f.form) (hkn : f ∈ kn) : ∀ y ∈ fi_ (aP_ ps) x f, eb_ ps A (· ∈ kn) y := by
  intro y hy
  obtain ⟨e, hn⟩ := im_ hf hk
  obtain ⟨c, hc, hy⟩ := List.mem_flatMap.1 hy
  obtain ⟨z, hz, rfl⟩ := List.mem_map.1 hy
  obtain ⟨h1, h2, h3, h4⟩ := (pm4' hn).1 hz
  exact .r8 (b := f.b) h1 h2 (by rw [h3, ← e]; exact hkn) (by rw [h4]; exact hkS _ (ix_sub (hS := hS) ((hx.above _ _).1 (cY_.1 hc))))
theorem gZ_ (hr : ∀ x ∈ ps, x.vok) (hx : x.of S Fm) (hS : ∀ y, S y → y.form) (hkS : ∀ y, S y → y ∈ kn) (hk : f.kind = 1) (hf : f.form) (hkn : f ∈ kn) : ∀ y ∈ fj_ (aP_ ps) x f, eb_ ps A (· ∈ kn) y := by
  intro y hy
  obtain ⟨z, hz, hy⟩ := List.mem_flatMap.1 hy
  obtain ⟨c, hc, rfl⟩ := List.mem_map.1 hy
  obtain ⟨h1, h2, h3⟩ := (pm4 (fun x hx => (hr x hx).rok)).1 hz
  exact .r8 (b := f.a) h1 h2 (hkS _ (jr_ (hS := hS) ((hx.into _ _ _).1 (cY_.1 hc)))) (by rw [h3, ← ks_ hf hk]; exact hkn)
theorem gE_ (hx : x.of S Fm) (hS : ∀ y, S y → y.form) (hkS : ∀ y, S y → y ∈ kn) (hk : f.kind = 1) (hf : f.form) (hkn : f ∈ kn) : ∀ y ∈ dk_ x f, eb_ ps A (· ∈ kn) y := by
  intro y hy
  unfold dk_ at hy
  split at hy
  · rename_i hb
    obtain ⟨a, ha, rfl⟩ := List.mem_map.1 hy
    obtain ⟨g, h1, h2, h3, h4⟩ := (hx.under _ _).1 (cY_.1 ha)
    exact .r9 (r := g.r) (hkS _ (jr_ (hS := hS) ⟨g, h1, h2, h3, rfl, h4⟩)) (by rw [← hb, ← ks_ hf hk]; exact hkn)
  · simp at hy
theorem gD_ (hk : f.kind = 2) (hf : f.form) (hkn : f ∈ kn) (h : ax_ f.b [33] ∈ kn) : eb_ ps A (· ∈ kn) (ax_ f.a [33]) :=
  .r9 (r := f.r) (b := f.b) (by rw [← (im_ hf hk).1]; exact hkn) h
theorem kW_ (hk : f.kind = 3) (hf : f.form) (hkn : f ∈ kn) : ∀ y ∈ py_ (aP_ ps) f, eb_ ps A (· ∈ kn) y := by
  intro y hy
  obtain ⟨z, hz, rfl⟩ := List.mem_map.1 hy
  obtain ⟨hz, hc⟩ := List.mem_filter.1 hz
  obtain ⟨h1, h2, h3⟩ := pm9.1 hz
  have hc := of_decide_eq_true hc
  exact .r14 h1 h2 (by rw [h3, ← (fs_ hf hk).1]; exact hkn) hc.1 hc.2
theorem iG_ (hx : x.of S Fm) {firm : Bool} {y : Fc} (hy : y ∈ ej_ x f firm) : S y ∧ y.kind = 3 ∧ y.a = f.a ∧ y.r = f.r := by
  unfold ej_ at hy
  split at hy
  · exact (hx.ranges _ _ _).1 (cY_.1 hy)
  · have := (hx.firms _ _ _).1 (cY_.1 hy)
    exact ⟨this.1, this.2.2⟩
theorem ki_ (hx : x.of S Fm) (hS : ∀ y, S y → y.form) (hkS : ∀ y, S y → y ∈ kn) (hk : f.kind = 3) (hf : f.form) (hkn : f ∈ kn) {firm : Bool} : ∀ y ∈ fz_ f (ej_ x f firm) ++ gB_ f (ej_ x f firm), eb_ ps A (· ∈ kn) y := by
  intro y hy
  have e := (fs_ hf hk).1
  rcases List.mem_append.1 hy with hy | hy
  · obtain ⟨z, hz, rfl⟩ := List.mem_map.1 hy
    obtain ⟨hz, hc⟩ := List.mem_filter.1 hz
    obtain ⟨h1, h2, h3, h4⟩ := iG_ hx hz
    simp only [cL_, Bool.and_eq_true, Bool.not_eq_true', decide_eq_false_iff_not, Int.not_lt] at hc
    have ez := (fs_ (hS z h1) h2).1
    rw [h3, h4] at ez
    exact .r12 (by rw [← e]; exact hkn) (by rw [← ez]; exact hkS z h1) trivial hc.1
  · unfold gB_ at hy
    split at hy
    · rename_i ha
      obtain ⟨z, hz, hc⟩ := List.any_eq_true.1 ha
      obtain ⟨h1, h2, h3, h4⟩ := iG_ hx hz
      have ez := (fs_ (hS z h1) h2).1
      rw [h3, h4] at ez
      simp only [List.mem_singleton] at hy
      subst hy
      exact .r13 (r := f.r) (by rw [← e]; exact hkn) (by rw [← ez]; exact hkS z h1) trivial (by simpa [cL_] using hc)
    · simp at hy
theorem nj_ {z : Pc} {a : Str} (hz : z ∈ ps) (hk : z.kind = 1) : ax_ a z.c ∈ gd_ (aP_ ps) (ax_ a z.a) :=
  List.mem_map.2 ⟨z, pm1.2 ⟨hz, hk, rfl⟩, rfl⟩
theorem qs_ {z : Pc} {a : Str} (hz : z ∈ ps) (hk : z.kind = 3) : aN_ a z.r z.c ∈ kQ_ (aP_ ps) (ax_ a z.a) :=
  List.mem_map.2 ⟨z, pm3.2 ⟨hz, hk, rfl⟩, rfl⟩
theorem oX_ {z : Pc} {a : Str} (hz : z ∈ ps) (hk : z.kind = 8) : aJ_ a z.r z.lo z.hi ∈ (lat (aP_ ps) ⟨8, [], (ax_ a z.a).b⟩).map (fun y => aJ_ (ax_ a z.a).a y.r y.lo y.hi) :=
  List.mem_map.2 ⟨z, pm8.2 ⟨hz, hk, rfl⟩, rfl⟩
theorem mZ_ {z : Pc} {a b : Str} (hz : z ∈ ps) (hk : z.kind = 5) : aN_ a z.t b ∈ ga_ (aP_ ps) (aN_ a z.r b) :=
  List.mem_map.2 ⟨z, pm5.2 ⟨hz, hk, rfl⟩, rfl⟩
theorem nX_ (hx : x.of S Fm) (hr : ∀ x ∈ ps, x.vok) {z : Pc} {a b c : Str} (hz : z ∈ ps) (hk : z.kind = 6) (h : S (aN_ b z.s c)) : aN_ a z.t c ∈ ff_ (aP_ ps) x (aN_ a z.r b) :=
  List.mem_flatMap.2 ⟨z, (pm6 ((hr z hz).rok.1 (by simp [hk]))).2 ⟨hz, hk, rfl⟩, List.mem_map.2 ⟨c, cY_.2 ((hx.frm _ _ _).2 ⟨_, h, rfl, rfl, rfl, rfl⟩), rfl⟩⟩
theorem nW_ (hx : x.of S Fm) (hr : ∀ x ∈ ps, x.vok) {z : Pc} {a b c : Str} (hz : z ∈ ps) (hk : z.kind = 6) (h : S (aN_ a z.r b)) : aN_ a z.t c ∈ gy_ (aP_ ps) x (aN_ b z.s c) :=
  List.mem_flatMap.2 ⟨z, (pm6' ((hr z hz).rok.2.1 hk).1).2 ⟨hz, hk, rfl⟩, List.mem_map.2 ⟨a, cY_.2 ((hx.into _ _ _).2 ⟨_, h, rfl, rfl, rfl, rfl⟩), rfl⟩⟩
theorem lL_ (hx : x.of S Fm) (hr : ∀ x ∈ ps, x.vok) {z : Pc} {a b : Str} (hz : z ∈ ps) (hk : z.kind = 4) (h : S (ax_ b z.a)) : ax_ a z.c ∈ fi_ (aP_ ps) x (aN_ a z.r b) :=
  List.mem_flatMap.2 ⟨z.a, cY_.2 ((hx.above _ _).2 ⟨_, h, rfl, rfl, rfl⟩), List.mem_map.2 ⟨z, (pm4' ((hr z hz).rok.1 (by simp [hk]))).2 ⟨hz, hk, rfl, rfl⟩, rfl⟩⟩
theorem lM_ (hx : x.of S Fm) (hr : ∀ x ∈ ps, x.vok) {z : Pc} {a b : Str} (hz : z ∈ ps) (hk : z.kind = 4) (h : S (aN_ a z.r b)) : ax_ a z.c ∈ fj_ (aP_ ps) x (ax_ b z.a) :=
  List.mem_flatMap.2 ⟨z, (pm4 (fun x hx => (hr x hx).rok)).2 ⟨hz, hk, rfl⟩, List.mem_map.2 ⟨a, cY_.2 ((hx.into _ _ _).2 ⟨_, h, rfl, rfl, rfl, rfl⟩), rfl⟩⟩
theorem kI_ (hx : x.of S Fm) {a r b : Str} (h : S (aN_ a r b)) : ax_ a [33] ∈ dk_ x (ax_ b [33]) := by
  unfold dk_
  rw [if_pos (show (ax_ b [33]).b = [33] from rfl)]
  exact List.mem_map.2 ⟨a, cY_.2 ((hx.under _ _).2 ⟨_, h, rfl, rfl, rfl⟩), rfl⟩
theorem rW_ {z : Pc} {a : Str} {lo hi : Int} (hz : z ∈ ps) (hk : z.kind = 9) (h1 : z.lo ≤ lo) (h2 : hi ≤ z.hi) : ax_ a z.c ∈ py_ (aP_ ps) (aJ_ a z.r lo hi) :=
  List.mem_map.2 ⟨z, List.mem_filter.2 ⟨pm9.2 ⟨hz, hk, rfl⟩, decide_eq_true ⟨h1, h2⟩⟩, rfl⟩
theorem kY_ (hx : x.of S Fm) {firm : Bool} (hfm : firm = true ↔ Fm f) {y : Fc} (hy : S y) (hk : y.kind = 3) (ha : y.a = f.a) (hr : y.r = f.r) (hm : Fm f ∨ Fm y) : y ∈ ej_ x f firm := by
  unfold ej_
  cases firm with
  | true => rw [if_pos rfl]; exact cY_.2 ((hx.ranges _ _ _).2 ⟨hy, hk, ha, hr⟩)
  | false =>
    rw [if_neg (by decide)]
    refine cY_.2 ((hx.firms _ _ _).2 ⟨hy, hm.resolve_left (fun q => ?_), hk, ha, hr⟩)
    exact absurd (hfm.2 q) (by decide)
theorem mQ_ {l : List Fc} {y : Fc} (hy : y ∈ l) :
    (max f.lo y.lo ≤ min f.hi y.hi → dx_ f y ∈ fz_ f l ∨ dx_ f y = f ∨ dx_ f y = y) ∧ (min f.hi y.hi < max f.lo y.lo → ax_ f.a [33] ∈ gB_ f l) := by
  refine ⟨fun h => ?_, fun h => ?_⟩
  · by_cases h1 : dx_ f y = f
    · exact .inr (.inl h1)
    · by_cases h2 : dx_ f y = y
      · exact .inr (.inr h2)
      · refine .inl (List.mem_map.2 ⟨y, List.mem_filter.2 ⟨hy, ?_⟩, rfl⟩)
        simp only [cL_, Bool.and_eq_true, Bool.not_eq_true', decide_eq_false_iff_not, Int.not_lt, decide_eq_true_eq]
        exact ⟨h, h1, h2⟩
  · unfold gB_
    rw [if_pos (List.any_eq_true.2 ⟨y, hy, by simpa [cL_] using h⟩)]
    simp
end
section
variable (stp : Fc → List Fc → List Fc) (kof : List Fc → List Fc) (pm : List (Ky × Pc)) (x : Ix) (f : Fc)
def rl (j : Nat) (s : List Fc × List Fc) : List Fc × List Fc :=
  if f.kind = 1 then
    (match j with
    | 0 => (emits stp (gd_ pm f) s.1, s.2)
    | 1 => (ea_ stp kof f (lat pm ⟨2, [], f.b⟩) s.1, s.2)
    | 2 => (emits stp (kQ_ pm f) s.1, s.2)
    | 3 => (emits stp (fj_ pm x f) s.1, s.2)
    | 4 => (emits stp (dk_ x f) s.1, s.2)
    | _ => cq_ stp kof f (lat pm ⟨8, [], f.b⟩) s)
  else if f.kind = 2 then
    (match j with
    | 0 => (emits stp (ga_ pm f) s.1, s.2)
    | 1 => (emits stp (ff_ pm x f ++ gy_ pm x f) s.1, s.2)
    | 2 => (emits stp (fi_ pm x f) s.1, s.2)
    | _ => (if ax_ f.b [33] ∈ kof s.1 then stp (ax_ f.a [33]) s.1 else s.1, s.2))
  else
    (match j with
    | 0 => (emits stp (fz_ f (ej_ x f (decide (f ∈ s.2))) ++ gB_ f (ej_ x f (decide (f ∈ s.2)))) s.1, s.2)
    | _ => (emits stp (py_ pm f) s.1, s.2))
def rls : Nat → List Fc × List Fc → List Fc × List Fc
  | 0, s => s
  | j + 1, s => rl stp kof pm x f j (rls j s)
def nrl : Nat := if f.kind = 1 then 6 else if f.kind = 2 then 4 else 2
end
structure Cmpl (ps : List Pc) (S Fm kn good : Fc → Prop) (f : Fc) : Prop where
  c3 : ∀ z a, z ∈ ps → z.kind = 1 → f = ax_ a z.a → good (ax_ a z.c)
  c4 : ∀ z a, z ∈ ps → z.kind = 2 → f = ax_ a z.a → kn (ax_ a z.b) → good (ax_ a z.c)
  c4' : ∀ z a, z ∈ ps → z.kind = 2 → f = ax_ a z.b → kn (ax_ a z.a) → good (ax_ a z.c)
  c5 : ∀ z a, z ∈ ps → z.kind = 3 → f = ax_ a z.a → good (aN_ a z.r z.c)
  c6 : ∀ z a b, z ∈ ps → z.kind = 5 → f = aN_ a z.r b → good (aN_ a z.t b)
  c7 : ∀ z a b c, z ∈ ps → z.kind = 6 → f = aN_ a z.r b → S (aN_ b z.s c) → good (aN_ a z.t c)
  c7' : ∀ z a b c, z ∈ ps → z.kind = 6 → f = aN_ b z.s c → S (aN_ a z.r b) → good (aN_ a z.t c)
  c8 : ∀ z a b, z ∈ ps → z.kind = 4 → f = aN_ a z.r b → S (ax_ b z.a) → good (ax_ a z.c)
  c8' : ∀ z a b, z ∈ ps → z.kind = 4 → f = ax_ b z.a → S (aN_ a z.r b) → good (ax_ a z.c)
  c9 : ∀ a r b, f = aN_ a r b → kn (ax_ b [33]) → good (ax_ a [33])
  c9' : ∀ a r b, f = ax_ b [33] → S (aN_ a r b) → good (ax_ a [33])
  c11 : ∀ z a, z ∈ ps → z.kind = 8 → f = ax_ a z.a → good (aJ_ a z.r z.lo z.hi)
  c12 : ∀ y, f.kind = 3 → S y → y.kind = 3 → y.a = f.a → y.r = f.r → (Fm f ∨ Fm y) → max f.lo y.lo ≤ min f.hi y.hi → good (dx_ f y)
  c13 : ∀ y, f.kind = 3 → S y → y.kind = 3 → y.a = f.a → y.r = f.r → (Fm f ∨ Fm y) → min f.hi y.hi < max f.lo y.lo → good (ax_ f.a [33])
  c14 : ∀ z a lo hi, z ∈ ps → z.kind = 9 → f = aJ_ a z.r lo hi → z.lo ≤ lo → hi ≤ z.hi → good (ax_ a z.c)
section
variable {stp : Fc → List Fc → List Fc} {kof : List Fc → List Fc} {ps : List Pc} {A : List Str} {x : Ix} {S Fm : Fc → Prop} {f : Fc}
theorem jO_ (hg : Grows stp kof) (j : Nat) (s : List Fc × List Fc) : ∃ L, (rl stp kof (aP_ ps) x f j s).1 = emits stp L s.1 := by
  unfold rl
  split
  · split
    · exact ⟨_, rfl⟩
    · obtain ⟨L, h, _⟩ := el_ hg f (lat (aP_ ps) ⟨2, [], f.b⟩) s.1
      exact ⟨L, h⟩
    · exact ⟨_, rfl⟩
    · exact ⟨_, rfl⟩
    · exact ⟨_, rfl⟩
    · exact ⟨_, ee_ stp kof f _ s.1 s.2⟩
  · split
    · split
      · exact ⟨_, rfl⟩
      · exact ⟨_, rfl⟩
      · exact ⟨_, rfl⟩
      · simp only
        split
        · exact ⟨[ax_ f.a [33]], rfl⟩
        · exact ⟨[], rfl⟩
    · split
      · exact ⟨_, rfl⟩
      · exact ⟨_, rfl⟩
theorem hl_ (hg : Grows stp kof) (j : Nat) (s : List Fc × List Fc) : ∃ L, (rls stp kof (aP_ ps) x f j s).1 = emits stp L s.1 := by
  induction j with
  | zero => exact ⟨[], rfl⟩
  | succ j ih =>
    obtain ⟨L, h⟩ := ih
    obtain ⟨M, h'⟩ := jO_ (ps := ps) (x := x) (f := f) hg j (rls stp kof (aP_ ps) x f j s)
    exact ⟨L ++ M, by rw [rls, h', h, aU_]⟩
theorem iA_ (hg : Grows stp kof) (j : Nat) (s : List Fc × List Fc) (z : Fc) (hz : z ∈ kof s.1) : z ∈ kof (rls stp kof (aP_ ps) x f j s).1 := by
  obtain ⟨L, h⟩ := hl_ (ps := ps) (x := x) (f := f) hg j s
  rw [h]; exact hg.emits L _ z hz
theorem mu_ (j : Nat) (s : List Fc × List Fc) (h : f.kind = 1 → j ≤ 5) : (rls stp kof (aP_ ps) x f j s).2 = s.2 := by
  induction j with
  | zero => rfl
  | succ j ih =>
    rw [← ih (fun hk => by have := h hk; omega), rls, rl.eq_def]
    split
    · rename_i hk
      have := h hk
      match j, this with
      | 0, _ => rfl
      | 1, _ => rfl
      | 2, _ => rfl
      | 3, _ => rfl
      | 4, _ => rfl
    · split
      · split <;> rfl
      · split <;> rfl
theorem mv_ (hg : Grows stp kof) (hr : ∀ x ∈ ps, x.vok) (hx : x.of S Fm) (s : List Fc × List Fc) (hfm : ∀ y, S y → (Fm y ↔ y ∈ s.2)) (hf : S f) (hSk : ∀ y, S y → y ∈ kof s.1) (good : Fc → Prop) (hS : ∀ y, S y → good y)
    (H : ∀ j, j < nrl f → ∀ L, (rls stp kof (aP_ ps) x f (j + 1) s).1 = emits stp L (rls stp kof (aP_ ps) x f j s).1 → ∀ y ∈ L, good y) :
    Cmpl ps S Fm (· ∈ kof s.1) good f := by
  have K : ∀ k j, f.kind = k → j < nrl f → ∀ L, (rl stp kof (aP_ ps) x f j (rls stp kof (aP_ ps) x f j s)).1 = emits stp L (rls stp kof (aP_ ps) x f j s).1 → ∀ y ∈ L, good y := fun k j _ hj L hL => H j hj L (by rw [rls]; exact hL)
  have n1 : f.kind = 1 → nrl f = 6 := fun h => by simp [nrl, h]
  have n2 : f.kind = 2 → nrl f = 4 := fun h => by simp [nrl, h]
  have n3 : f.kind = 3 → nrl f = 2 := fun h => by simp [nrl, h]
  have k1 : ∀ {a b}, f = ax_ a b → f.kind = 1 := fun e => by rw [e]; rfl
  have k2 : ∀ {a r b}, f = aN_ a r b → f.kind = 2 := fun e => by rw [e]; rfl
  have k3 : ∀ {a r lo hi}, f = aJ_ a r lo hi → f.kind = 3 := fun e => by rw [e]; rfl
  have both : ∀ z a, z ∈ ps → z.kind = 2 → f.kind = 1 → f.a = a → (z.a = f.b ∨ z.b = f.b) → ax_ a z.a ∈ kof s.1 → ax_ a z.b ∈ kof s.1 → good (ax_ a z.c) := by
    intro z a hz hk h1 ha hb g1 g2
    subst ha
    obtain ⟨L, e1, e2, e3⟩ := el_ hg f (lat (aP_ ps) ⟨2, [], f.b⟩) (rls stp kof (aP_ ps) x f 1 s).1
    exact K 1 1 h1 (by rw [n1 h1]; decide) L (by rw [rl.eq_def, if_pos h1]; exact e1) _ (e3 z (pm2.2 ⟨hz, hk, hb⟩) (iA_ hg 1 s _ g1) (iA_ hg 1 s _ g2))
  have mt : f.kind = 3 → (∀ y ∈ fz_ f (ej_ x f (decide (f ∈ s.2))) ++ gB_ f (ej_ x f (decide (f ∈ s.2))), good y) := fun h3 =>
    K 3 0 h3 (by rw [n3 h3]; decide) _ (by rw [rl.eq_def, if_neg (by rw [h3]; decide), if_neg (by rw [h3]; decide)]; rfl)
  have hfirm : decide (f ∈ s.2) = true ↔ Fm f := by rw [decide_eq_true_eq]; exact (hfm f hf).symm
  refine ⟨?_, ?_, ?_, ?_, ?_, ?_, ?_, ?_, ?_, ?_, ?_, ?_, ?_, ?_, ?_⟩
  · intro z a hz hk e
    have h1 := k1 e
    exact K 1 0 h1 (by rw [n1 h1]; decide) (gd_ (aP_ ps) f) (by rw [rl.eq_def, if_pos h1] <;> rfl) _ (by rw [e]; exact nj_ hz hk)
  · intro z a hz hk e h
    have h1 := k1 e
    exact both z a hz hk h1 (by rw [e]; rfl) (by rw [e]; exact .inl rfl) (by rw [← e]; exact hSk f hf) h
  · intro z a hz hk e h
    have h1 := k1 e
    exact both z a hz hk h1 (by rw [e]; rfl) (by rw [e]; exact .inr rfl) h (by rw [← e]; exact hSk f hf)
  · intro z a hz hk e
    have h1 := k1 e
    exact K 1 2 h1 (by rw [n1 h1]; decide) (kQ_ (aP_ ps) f) (by rw [rl.eq_def, if_pos h1] <;> rfl) _ (by rw [e]; exact qs_ hz hk)
  · intro z a b hz hk e
    have h1 := k2 e
    exact K 2 0 h1 (by rw [n2 h1]; decide) (ga_ (aP_ ps) f) (by rw [rl.eq_def, if_neg (by rw [h1]; decide), if_pos h1] <;> rfl) _ (by rw [e]; exact mZ_ hz hk)
  · intro z a b c hz hk e h
    have h1 := k2 e
    exact K 2 1 h1 (by rw [n2 h1]; decide) (ff_ (aP_ ps) x f ++ gy_ (aP_ ps) x f) (by rw [rl.eq_def, if_neg (by rw [h1]; decide), if_pos h1] <;> rfl) _ (List.mem_append_left _ (by rw [e]; exact nX_ hx hr hz hk h))
  · intro z a b c hz hk e h
    have h1 := k2 e
    exact K 2 1 h1 (by rw [n2 h1]; decide) (ff_ (aP_ ps) x f ++ gy_ (aP_ ps) x f) (by rw [rl.eq_def, if_neg (by rw [h1]; decide), if_pos h1] <;> rfl) _ (List.mem_append_right _ (by rw [e]; exact nW_ hx hr hz hk h))
  · intro z a b hz hk e h
    have h1 := k2 e
    exact K 2 2 h1 (by rw [n2 h1]; decide) (fi_ (aP_ ps) x f) (by rw [rl.eq_def, if_neg (by rw [h1]; decide), if_pos h1] <;> rfl) _ (by rw [e]; exact lL_ hx hr hz hk h)
  · intro z a b hz hk e h
    have h1 := k1 e
    exact K 1 3 h1 (by rw [n1 h1]; decide) (fj_ (aP_ ps) x f) (by rw [rl.eq_def, if_pos h1] <;> rfl) _ (by rw [e]; exact lM_ hx hr hz hk h)
  · intro a r b e h
    have h1 := k2 e
    have e1 : ax_ f.b [33] ∈ kof (rls stp kof (aP_ ps) x f 3 s).1 := iA_ hg 3 s _ (by rw [e]; exact h)
    exact K 2 3 h1 (by rw [n2 h1]; decide) [ax_ f.a [33]] (by rw [rl.eq_def, if_neg (by rw [h1]; decide), if_pos h1]; simp only [if_pos e1]; rfl) _ (by rw [e]; simp [aN_])
  · intro a r b e h
    have h1 := k1 e
    exact K 1 4 h1 (by rw [n1 h1]; decide) (dk_ x f) (by rw [rl.eq_def, if_pos h1] <;> rfl) _ (by rw [e]; exact kI_ hx h)
  · intro z a hz hk e
    have h1 := k1 e
    exact K 1 5 h1 (by rw [n1 h1]; decide) ((lat (aP_ ps) ⟨8, [], f.b⟩).map fun y => aJ_ f.a y.r y.lo y.hi) (by rw [rl.eq_def, if_pos h1]; exact ee_ stp kof f _ _ _) _ (by rw [e]; exact oX_ hz hk)
  · intro y h3 hy hk ha hr' hm hl
    have hmem := kY_ hx hfirm hy hk ha hr' hm
    rcases (mQ_ (f := f) hmem).1 hl with q | q | q
    · exact mt h3 _ (List.mem_append_left _ q)
    · rw [q]; exact hS f hf
    · rw [q]; exact hS y hy
  · intro y h3 hy hk ha hr' hm hl
    have hmem := kY_ hx hfirm hy hk ha hr' hm
    exact mt h3 _ (List.mem_append_right _ ((mQ_ (f := f) hmem).2 hl))
  · intro z a lo hi hz hk e g1 g2
    have h1 := k3 e
    exact K 3 1 h1 (by rw [n3 h1]; decide) (py_ (aP_ ps) f) (by rw [rl.eq_def, if_neg (by rw [h1]; decide), if_neg (by rw [h1]; decide)] <;> rfl) _ (by rw [e]; exact rW_ hz hk g1 g2)
end
end Go.Vs
namespace Go.Vs
open Go Go.Sx
def bB_ (m : Nat) (y : Fc) (q : List Fc) : List Fc := if q.length ≤ m ∧ y ∉ q then q ++ [y] else q
abbrev idk : List Fc → List Fc := fun q => q
theorem mm_ (m : Nat) (y : Fc) (q : List Fc) : ∃ t, bB_ m y q = q ++ t := by
  unfold bB_; split
  · exact ⟨[y], rfl⟩
  · exact ⟨[], by simp⟩
theorem iq_ (m : Nat) : ∀ (L q : List Fc), ∃ t, emits (bB_ m) L q = q ++ t
  | [], q => ⟨[], by simp [emits]⟩
  | y :: L, q => by
    obtain ⟨t, h⟩ := mm_ m y q
    obtain ⟨u, h'⟩ := iq_ m L (bB_ m y q)
    exact ⟨t ++ u, by rw [← List.append_assoc, ← h, ← h']; rfl⟩
theorem eV_ (m : Nat) : Grows (bB_ m) idk := ⟨fun y s z hz => by obtain ⟨t, h⟩ := mm_ m y s; rw [h]; exact List.mem_append_left _ hz⟩
theorem fD_ (m : Nat) : ∀ (L q : List Fc) (z : Fc), z ∈ emits (bB_ m) L q → z ∈ q ∨ z ∈ L
  | [], q, z, h => .inl h
  | y :: L, q, z, h => by
    rcases fD_ m L (bB_ m y q) z h with h | h
    · unfold bB_ at h
      split at h
      · rcases List.mem_append.1 h with h | h
        · exact .inl h
        · exact .inr (by simp at h; simp [h])
      · exact .inl h
    · exact .inr (List.mem_cons_of_mem _ h)
theorem hr_ (m : Nat) : ∀ (L q : List Fc), q.Nodup → (emits (bB_ m) L q).Nodup
  | [], q, h => h
  | y :: L, q, h => by
    refine hr_ m L (bB_ m y q) ?_
    unfold bB_
    split
    · rename_i hc
      rw [List.nodup_append]
      exact ⟨h, by simp, fun a ha b hb e => by simp at hb; subst hb; subst e; exact hc.2 ha⟩
    · exact h
theorem lN_ (m : Nat) : ∀ (L q : List Fc), q.length ≤ m + 1 → (emits (bB_ m) L q).length ≤ m + 1
  | [], q, h => h
  | y :: L, q, h => by
    refine lN_ m L (bB_ m y q) ?_
    unfold bB_
    split
    · rename_i hc; simp; exact hc.1
    · exact h
theorem hs_ (m : Nat) : ∀ (L q : List Fc), (emits (bB_ m) L q).length ≤ m → ∀ y ∈ L, y ∈ emits (bB_ m) L q
  | [], q, _, y, hy => by simp at hy
  | x :: L, q, h, y, hy => by
    have e : emits (bB_ m) (x :: L) q = emits (bB_ m) L (bB_ m x q) := rfl
    rw [e] at h ⊢
    rcases List.mem_cons.1 hy with rfl | hy
    · obtain ⟨t, ht⟩ := iq_ m L (bB_ m y q)
      rw [ht] at h ⊢
      refine List.mem_append_left _ ?_
      have hl : (bB_ m y q).length ≤ m := by rw [List.length_append] at h; omega
      unfold bB_ at hl ⊢
      split
      · simp
      · rename_i hc
        rw [if_neg hc] at hl
        exact Classical.byContradiction fun hn => hc ⟨hl, hn⟩
    · exact hs_ m L _ h y hy
theorem jk_ {ps : List Pc} {A : List Str} {m : Nat} {f : Fc} : ∀ (l : List Pc) (s : List Fc), (∀ z ∈ l, z ∈ ps ∧ z.kind = 2) → (∀ y ∈ s, Der ps A y) → ∀ y ∈ ea_ (bB_ m) idk f l s, Der ps A y
  | [], s, _, hs, y, hy => hs y hy
  | z :: l, s, hl, hs, y, hy => by
    have hz := hl z (by simp)
    simp only [ea_, List.foldl_cons] at hy
    refine jk_ l _ (fun z hz => hl z (by simp [hz])) (fun y hy => ?_) y hy
    split at hy
    · rename_i hc
      have := fD_ m [ax_ f.a z.c] s y hy
      rcases this with h | h
      · exact hs y h
      · simp at h; subst h
        exact Der.step (.r4 hz.1 hz.2 (hs _ hc.1) (hs _ hc.2))
    · exact hs y hy
section
variable {ps : List Pc} {A : List Str} {m : Nat} {x : Ix} {S Fm : Fc → Prop} {f : Fc}
theorem pm_ (hr : ∀ x ∈ ps, x.vok) (hx : x.of S Fm) (hS : ∀ y, S y → y.form) (hk : f.kind = 1 ∨ f.kind = 2 ∨ f.kind = 3) (hf : f.form) (j : Nat) (s : List Fc × List Fc) (hSs : ∀ y, S y → y ∈ s.1) (hfs : f ∈ s.1) (hs : ∀ y ∈ s.1, Der ps A y) :
    ∀ y ∈ (rl (bB_ m) idk (aP_ ps) x f j s).1, Der ps A y := by
  have E : ∀ L, (∀ y ∈ L, eb_ ps A (· ∈ s.1) y) → ∀ y ∈ emits (bB_ m) L s.1, Der ps A y := fun L hL y hy => by
    rcases fD_ m L s.1 y hy with h | h
    · exact hs y h
    · exact Der.step ((hL y h).mono (fun x hx => ⟨x, hx, x.frm, rfl⟩) (fun _ h => h) hs (fun _ _ h => h))
  unfold rl
  split
  · rename_i h1
    split
    · exact E _ (hA_ h1 hf hfs)
    · exact jk_ _ s.1 (fun z hz => by have := pm2.1 hz; exact ⟨this.1, this.2.1⟩) hs
    · exact E _ (jJ_ h1 hf hfs)
    · exact E _ (gZ_ hr hx hS hSs h1 hf hfs)
    · exact E _ (gE_ hx hS hSs h1 hf hfs)
    · rw [ee_]; exact E _ (iT_ h1 hf hfs)
  · split
    · rename_i h2
      split
      · exact E _ (hy_ h2 hf hfs)
      · exact E _ (jj_ hx hS hSs h2 hf hfs)
      · exact E _ (gX_ hx hS hSs h2 hf hfs)
      · simp only
        split
        · rename_i hc
          exact E [ax_ f.a [33]] (fun y hy => by simp at hy; subst hy; exact gD_ h2 hf hfs hc)
        · exact hs
    · rename_i h1 h2
      have h3 : f.kind = 3 := by omega
      split
      · exact E _ (ki_ hx hS hSs h3 hf hfs)
      · exact E _ (kW_ h3 hf hfs)
theorem jN_ (hr : ∀ x ∈ ps, x.vok) (hx : x.of S Fm) (hS : ∀ y, S y → y.form) (hf : f.form) (s : List Fc × List Fc) (hSs : ∀ y, S y → y ∈ s.1) (hfs : f ∈ s.1) (hs : ∀ y ∈ s.1, Der ps A y) (j : Nat) :
    ∀ y ∈ (rls (bB_ m) idk (aP_ ps) x f j s).1, Der ps A y := by
  induction j with
  | zero => exact hs
  | succ j ih => exact pm_ hr hx hS (fh_ hf) hf j _ (fun y hy => iA_ (eV_ m) j s y (hSs y hy)) (iA_ (eV_ m) j s f hfs) ih
end
inductive Fmd (fm : List Fc) : Fc → Prop
  | base {y : Fc} (h : y ∈ fm) : Fmd fm y
  | meet {y z : Fc} (hy : Fmd fm y) (hz : Fmd fm z) (ha : z.a = y.a) (hr : z.r = y.r) (hl : max y.lo z.lo ≤ min y.hi z.hi) : Fmd fm (dx_ y z)
theorem Fmd.mono {fm fm' : List Fc} (h : ∀ y ∈ fm, y ∈ fm') {y : Fc} (hy : Fmd fm y) : Fmd fm' y := by
  induction hy with
  | base h1 => exact .base (h _ h1)
  | meet _ _ ha hr hl ih1 ih2 => exact .meet ih1 ih2 ha hr hl
structure InvA (ps : List Pc) (A : List Str) (m n : Nat) (q fm : List Fc) (x : Ix) : Prop where
  nd : q.Nodup
  len : q.length ≤ m
  le : n ≤ q.length
  der : ∀ y ∈ q, Der ps A y
  form : ∀ y ∈ q, y.form
  ix : x.of (· ∈ q.take n) (· ∈ fm)
  fmq : ∀ y ∈ fm, y ∈ q ∧ y.kind = 3
  firm : ∀ y ∈ q, y.kind = 3 → Fmd fm y
  st : ∀ a ∈ A, ax_ a a ∈ q ∧ ax_ a [42] ∈ q ∧ ∀ z ∈ ps, z.kind = 7 → aN_ a z.r a ∈ q
  cl : ∀ y, One ps A (· ∈ q.take n) (fun y z => y ∈ fm ∨ z ∈ fm) y → y ∈ q
theorem Der.form {p : List Pc} {A : List Str} (hp : ∀ x ∈ p, x.vok) {y : Fc} (h : Der p A y) : y.form := h _ fun _ hz => One.form hp (fun _ h => h) hz
theorem iU_ {stp : Fc → List Fc → List Fc} {kof : List Fc → List Fc} (hk : ∀ i s z, z ∈ kof (stp i s) → z ∈ kof s ∨ z = i) (h : Grows stp kof) (f : Fc) : ∀ (l : List Pc) (s fm : List Fc), ∀ y ∈ l, aJ_ f.a y.r y.lo y.hi ∈ kof s ∨ aJ_ f.a y.r y.lo y.hi ∈ (cq_ stp kof f l (s, fm)).2
  | [], s, fm, y, hy => by simp at hy
  | x :: l, s, fm, y, hy => by
    have e : cq_ stp kof f (x :: l) (s, fm) = cq_ stp kof f l (stp (aJ_ f.a x.r x.lo x.hi) s, if aJ_ f.a x.r x.lo x.hi ∈ kof s then fm else aJ_ f.a x.r x.lo x.hi :: fm) := rfl
    rw [e]
    by_cases he : aJ_ f.a y.r y.lo y.hi = aJ_ f.a x.r x.lo x.hi
    · rw [he]
      by_cases hc : aJ_ f.a x.r x.lo x.hi ∈ kof s
      · exact .inl hc
      · refine .inr ((fm_ h f l _ _ _).2 (.inl ?_))
        rw [if_neg hc]; simp
    · rcases List.mem_cons.1 hy with rfl | hy
      · exact absurd rfl he
      · rcases iU_ hk h f l (stp (aJ_ f.a x.r x.lo x.hi) s) (if aJ_ f.a x.r x.lo x.hi ∈ kof s then fm else aJ_ f.a x.r x.lo x.hi :: fm) y hy with h1 | h1
        · exact (hk _ _ _ h1).imp id fun q => absurd q he
        · exact .inr h1
theorem ml_ {q : List Fc} {n : Nat} {f z : Fc} (hn : q[n]? = some f) : z ∈ q.take (n + 1) ↔ z ∈ q.take n ∨ z = f := by
  rw [List.take_add_one, hn]; simp
theorem ss_ {ps : List Pc} {A : List Str} {S Fm kn good : Fc → Prop} {f : Fc} (hc : Cmpl ps (fun y => S y ∨ y = f) Fm kn good f) (hkn : ∀ y, S y ∨ y = f → kn y) (h : ∀ y, One ps A S (fun y z => Fm y ∨ Fm z) y → good y) (y : Fc) (hy : One ps A (fun y => S y ∨ y = f) (fun y z => Fm y ∨ Fm z) y) : good y := by
  cases hy with
  | r1 h1 => exact h _ (.r1 h1)
  | r2 h1 => exact h _ (.r2 h1)
  | r10 hx hk h1 => exact h _ (.r10 hx hk h1)
  | r3 hx hk h1 => exact h1.elim (fun q => h _ (.r3 hx hk q)) (fun q => hc.c3 _ _ hx hk q.symm)
  | r4 hx hk h1 h2 =>
    rcases h1 with h1 | h1
    · rcases h2 with h2 | h2
      · exact h _ (.r4 hx hk h1 h2)
      · exact hc.c4' _ _ hx hk h2.symm (hkn _ (.inl h1))
    · exact hc.c4 _ _ hx hk h1.symm (hkn _ h2)
  | r5 hx hk h1 => exact h1.elim (fun q => h _ (.r5 hx hk q)) (fun q => hc.c5 _ _ hx hk q.symm)
  | r6 hx hk h1 => exact h1.elim (fun q => h _ (.r6 hx hk q)) (fun q => hc.c6 _ _ _ hx hk q.symm)
  | r7 hx hk h1 h2 =>
    rcases h1 with h1 | h1
    · rcases h2 with h2 | h2
      · exact h _ (.r7 hx hk h1 h2)
      · exact hc.c7' _ _ _ _ hx hk h2.symm (.inl h1)
    · exact hc.c7 _ _ _ _ hx hk h1.symm h2
  | r8 hx hk h1 h2 =>
    rcases h1 with h1 | h1
    · rcases h2 with h2 | h2
      · exact h _ (.r8 hx hk h1 h2)
      · exact hc.c8' _ _ _ hx hk h2.symm (.inl h1)
    · exact hc.c8 _ _ _ hx hk h1.symm h2
  | r9 h1 h2 =>
    rcases h1 with h1 | h1
    · rcases h2 with h2 | h2
      · exact h _ (.r9 h1 h2)
      · exact hc.c9' _ _ _ h2.symm (.inl h1)
    · exact hc.c9 _ _ _ h1.symm (hkn _ h2)
  | r11 hx hk h1 => exact h1.elim (fun q => h _ (.r11 hx hk q)) (fun q => hc.c11 _ _ hx hk q.symm)
  | @r12 a r lo hi lo' hi' h1 h2 hm hl =>
    rcases h1 with h1 | h1
    · rcases h2 with h2 | h2
      · exact h _ (.r12 h1 h2 hm hl)
      · have := hc.c12 (aJ_ a r lo hi) (by rw [← h2]; rfl) (.inl h1) rfl (by rw [← h2]; rfl) (by rw [← h2]; rfl) (by rw [← h2]; exact hm.symm) (by rw [← h2]; simp only [aJ_]; omega)
        rw [← h2] at this
        rw [Int.max_comm, Int.min_comm]; exact this
    · have := hc.c12 (aJ_ a r lo' hi') (by rw [← h1]; rfl) h2 rfl (by rw [← h1]; rfl) (by rw [← h1]; rfl) (by rw [← h1]; exact hm) (by rw [← h1]; exact hl)
      rw [← h1] at this
      exact this
  | @r13 a r lo hi lo' hi' h1 h2 hm hl =>
    rcases h1 with h1 | h1
    · rcases h2 with h2 | h2
      · exact h _ (.r13 h1 h2 hm hl)
      · have := hc.c13 (aJ_ a r lo hi) (by rw [← h2]; rfl) (.inl h1) rfl (by rw [← h2]; rfl) (by rw [← h2]; rfl) (by rw [← h2]; exact hm.symm) (by rw [← h2]; simp only [aJ_]; omega)
        rw [← h2] at this
        exact this
    · have := hc.c13 (aJ_ a r lo' hi') (by rw [← h1]; rfl) h2 rfl (by rw [← h1]; rfl) (by rw [← h1]; rfl) (by rw [← h1]; exact hm) (by rw [← h1]; exact hl)
      rw [← h1] at this
      exact this
  | r14 hx hk h1 g1 g2 => exact h1.elim (fun q => h _ (.r14 hx hk q g1 g2)) (fun q => hc.c14 _ _ _ _ hx hk q.symm g1 g2)
theorem One.congrM {p : List Pc} {A : List Str} {S : Fc → Prop} {M M' : Fc → Fc → Prop} (hM : ∀ y z, S y → S z → M y z → M' y z) {y : Fc} (h : One p A S M y) : One p A S M' y := by
  cases h with
  | r1 h => exact .r1 h
  | r2 h => exact .r2 h
  | r10 hx hk h => exact .r10 hx hk h
  | r3 hx hk h => exact .r3 hx hk h
  | r4 hx hk h h' => exact .r4 hx hk h h'
  | r5 hx hk h => exact .r5 hx hk h
  | r6 hx hk h => exact .r6 hx hk h
  | r7 hx hk h h' => exact .r7 hx hk h h'
  | r8 hx hk h h' => exact .r8 hx hk h h'
  | r9 h h' => exact .r9 h h'
  | r11 hx hk h => exact .r11 hx hk h
  | r12 h h' hm hl => exact .r12 h h' (hM _ _ h h' hm) hl
  | r13 h h' hm hl => exact .r13 h h' (hM _ _ h h' hm) hl
  | r14 hx hk h h1 h2 => exact .r14 hx hk h h1 h2
section
variable {ps : List Pc} {A : List Str} {m n : Nat} {q fm : List Fc} {x : Ix} {f : Fc}
theorem qy_ (j k : Nat) (s : List Fc × List Fc) : ∃ t, (rls (bB_ m) idk (aP_ ps) x f (j + k) s).1 = (rls (bB_ m) idk (aP_ ps) x f j s).1 ++ t := by
  induction k with
  | zero => exact ⟨[], by simp⟩
  | succ k ih =>
    obtain ⟨t, h⟩ := ih
    obtain ⟨L, h'⟩ := jO_ (ps := ps) (x := x) (f := f) (eV_ m) (j + k) (rls (bB_ m) idk (aP_ ps) x f (j + k) s)
    obtain ⟨u, h''⟩ := iq_ m L (rls (bB_ m) idk (aP_ ps) x f (j + k) s).1
    exact ⟨t ++ u, by rw [← Nat.add_assoc, rls, h', h'', h, List.append_assoc]⟩
theorem mw_ (j : Nat) (s : List Fc × List Fc) (h : f.kind = 1 → j ≤ 4) (h3 : f.kind = 3 → j ≠ 0) (hk : f.kind = 1 ∨ f.kind = 2 ∨ f.kind = 3) : ∀ y ∈ (rl (bB_ m) idk (aP_ ps) x f j s).1, y.kind = 3 → y ∈ s.1 := by
  have E : ∀ L : List Fc, (∀ y ∈ L, y.kind ≠ 3) → ∀ y ∈ emits (bB_ m) L s.1, y.kind = 3 → y ∈ s.1 := fun L hL y hy hk =>
    (fD_ m L s.1 y hy).elim id fun q => absurd hk (hL y q)
  have mp : ∀ {α : Type} (l : List α) (g : α → Fc), (∀ a, (g a).kind ≠ 3) → ∀ y ∈ l.map g, y.kind ≠ 3 := fun l g hg y hy => by
    obtain ⟨a, _, rfl⟩ := List.mem_map.1 hy; exact hg a
  have fmp : ∀ {α β : Type} (l : List α) (k : α → List β) (g : α → β → Fc), (∀ a b, (g a b).kind ≠ 3) → ∀ y ∈ l.flatMap (fun a => (k a).map (g a)), y.kind ≠ 3 := fun l k g hg y hy => by
    obtain ⟨a, _, hy⟩ := List.mem_flatMap.1 hy
    exact mp _ _ (hg a) y hy
  unfold rl
  split
  · rename_i h1
    split
    · exact E _ (mp _ _ fun _ => by simp [ax_])
    · obtain ⟨L, e1, e2, _⟩ := el_ (eV_ m) f (lat (aP_ ps) ⟨2, [], f.b⟩) s.1
      rw [e1]
      exact E L fun y hy => by obtain ⟨_, _, rfl, _⟩ := e2 y hy; simp [ax_]
    · exact E _ (mp _ _ fun _ => by simp [aN_])
    · exact E _ (fmp _ _ _ fun _ _ => by simp [ax_])
    · refine E _ fun y hy => ?_
      unfold dk_ at hy
      split at hy
      · exact mp _ _ (fun _ => by simp [ax_]) y hy
      · simp at hy
    · have := h h1
      rename_i a1 a2 a3 a4 a5
      have hj : j = 0 ∨ j = 1 ∨ j = 2 ∨ j = 3 ∨ j = 4 := by omega
      rcases hj with hj | hj | hj | hj | hj
      · exact (a1 hj).elim
      · exact (a2 hj).elim
      · exact (a3 hj).elim
      · exact (a4 hj).elim
      · exact (a5 hj).elim
  · split
    · split
      · exact E _ (mp _ _ fun _ => by simp [aN_])
      · refine E _ fun y hy => ?_
        rcases List.mem_append.1 hy with hy | hy
        · exact fmp _ _ _ (fun _ _ => by simp [aN_]) y hy
        · exact fmp _ _ _ (fun _ _ => by simp [aN_]) y hy
      · exact E _ (fmp _ _ _ fun _ _ => by simp [ax_])
      · simp only
        split
        · exact E [ax_ f.a [33]] (by simp [ax_])
        · exact fun y hy _ => hy
    · rename_i h1 h2
      split
      · exact absurd rfl (h3 (by omega))
      · exact E _ (mp _ _ fun _ => by simp [ax_])
theorem kR_ (j : Nat) (s : List Fc × List Fc) (h : f.kind = 1 → j ≤ 5) (h3 : f.kind ≠ 3) (hk : f.kind = 1 ∨ f.kind = 2 ∨ f.kind = 3) : ∀ y ∈ (rls (bB_ m) idk (aP_ ps) x f j s).1, y.kind = 3 → y ∈ s.1 := by
  induction j with
  | zero => exact fun y hy _ => hy
  | succ j ih => exact fun y hy hk3 => ih (fun hh => by have := h hh; omega) y (mw_ j _ (fun hh => by have := h hh; omega) (fun hh => absurd hh h3) hk y hy hk3) hk3
theorem ra_ (hr : ∀ x ∈ ps, x.vok) (inv : InvA ps A m n q fm x) (hn : q[n]? = some f) {s' : List Fc × List Fc} (hs : rls (bB_ m) idk (aP_ ps) (x.add (decide (f ∈ fm)) f) f (nrl f) (q, fm) = s') (hl : s'.1.length ≤ m) :
    InvA ps A m (n + 1) s'.1 s'.2 (x.add (decide (f ∈ fm)) f) := by
  have hfq : f ∈ q := List.mem_of_getElem? hn
  have hlt : n < q.length := (List.getElem?_eq_some_iff.1 hn).1
  have hform := inv.form f hfq
  have hk := fh_ hform
  have hx' : (x.add (decide (f ∈ fm)) f).of (fun y => y ∈ q.take n ∨ y = f) (· ∈ fm) := Ix.of_add inv.ix f (by simp)
  have hSq : ∀ y, (y ∈ q.take n ∨ y = f) → y ∈ q := fun y hy => hy.elim (fun h => List.mem_of_mem_take h) (fun h => h ▸ hfq)
  obtain ⟨L, hL⟩ := hl_ (ps := ps) (x := x.add (decide (f ∈ fm)) f) (f := f) (eV_ m) (nrl f) (q, fm)
  rw [hs] at hL
  obtain ⟨t, ht⟩ := iq_ m L q
  have hpre : s'.1 = q ++ t := by rw [hL]; exact ht
  have hsub : ∀ y ∈ q, y ∈ s'.1 := fun y hy => by rw [hpre]; exact List.mem_append_left _ hy
  have htake : s'.1.take (n + 1) = q.take (n + 1) := by rw [hpre, List.take_append_of_le_length (by omega)]
  have hmem : ∀ y, y ∈ s'.1.take (n + 1) ↔ (y ∈ q.take n ∨ y = f) := fun y => by rw [htake]; exact ml_ hn
  have hder : ∀ y ∈ s'.1, Der ps A y := by rw [← hs]; exact jN_ hr hx' (fun y hy => inv.form y (hSq y hy)) hform (q, fm) hSq hfq inv.der (nrl f)
  have H : ∀ j, j < nrl f → ∀ L, (rls (bB_ m) idk (aP_ ps) (x.add (decide (f ∈ fm)) f) f (j + 1) (q, fm)).1 = emits (bB_ m) L (rls (bB_ m) idk (aP_ ps) (x.add (decide (f ∈ fm)) f) f j (q, fm)).1 → ∀ y ∈ L, y ∈ s'.1 := by
    intro j hj L hL y hy
    obtain ⟨u, hu⟩ := qy_ (m := m) (ps := ps) (x := x.add (decide (f ∈ fm)) f) (f := f) (j + 1) (nrl f - (j + 1)) (q, fm)
    rw [show j + 1 + (nrl f - (j + 1)) = nrl f by omega, hs] at hu
    have hle : (rls (bB_ m) idk (aP_ ps) (x.add (decide (f ∈ fm)) f) f (j + 1) (q, fm)).1.length ≤ m := by rw [hu, List.length_append] at hl; omega
    rw [hL] at hle
    have := hs_ m L _ hle y hy
    rw [hu, hL]
    exact List.mem_append_left _ this
  have hc := mv_ (eV_ m) hr hx' (q, fm) (fun _ _ => Iff.rfl) (.inr rfl) hSq (· ∈ s'.1) (fun y hy => hsub y (hSq y hy)) H
  -- the firm ones
  have hfm : (∀ y ∈ fm, y ∈ s'.2) ∧ (∀ y ∈ s'.2, y ∈ fm ∨ (y ∉ q ∧ y ∈ s'.1 ∧ y.kind = 3)) ∧ (∀ y ∈ s'.1, y.kind = 3 → y ∈ q ∨ y ∈ s'.2 ∨ ∃ z, (z ∈ q.take n ∨ z = f) ∧ z.kind = 3 ∧ f.kind = 3 ∧ z.a = f.a ∧ z.r = f.r ∧ max f.lo z.lo ≤ min f.hi z.hi ∧ y = dx_ f z) := by
    by_cases h1 : f.kind = 1
    · have e6 : nrl f = 5 + 1 := by simp [nrl, h1]
      rw [e6, rls] at hs
      have hf5 : (rls (bB_ m) idk (aP_ ps) (x.add (decide (f ∈ fm)) f) f 5 (q, fm)).2 = fm := mu_ 5 (q, fm) (fun _ => Nat.le_refl _)
      have hk5 := kR_ (m := m) (ps := ps) (x := x.add (decide (f ∈ fm)) f) (f := f) 5 (q, fm) (fun _ => Nat.le_refl _) (by omega) hk
      have hq5 : ∀ y ∈ q, y ∈ (rls (bB_ m) idk (aP_ ps) (x.add (decide (f ∈ fm)) f) f 5 (q, fm)).1 := fun y hy => iA_ (eV_ m) 5 (q, fm) y hy
      have H5 := H 5 (by omega)
      rw [rls] at H5
      generalize rls (bB_ m) idk (aP_ ps) (x.add (decide (f ∈ fm)) f) f 5 (q, fm) = s5 at hs hf5 hk5 hq5 H5
      have er : rl (bB_ m) idk (aP_ ps) (x.add (decide (f ∈ fm)) f) f 5 s5 = cq_ (bB_ m) idk f (lat (aP_ ps) ⟨8, [], f.b⟩) s5 := by rw [rl.eq_def, if_pos h1] <;> rfl
      rw [er] at hs H5
      have es5 : s5 = (s5.1, fm) := by rw [← hf5]
      rw [es5] at hs H5
      have Hv := H5 _ (ee_ (bB_ m) idk f _ s5.1 fm)
      refine ⟨fun y hy => ?_, fun y hy => ?_, fun y hy hy3 => ?_⟩
      · rw [← hs]; exact (fm_ (eV_ m) f _ _ _ _).2 (.inl hy)
      · rw [← hs] at hy
        rcases (fm_ (eV_ m) f _ _ _ _).1 hy with h | h
        · exact .inl h
        · rcases jA_ f _ _ _ _ h.2 with g | ⟨z, hz, rfl⟩
          · exact .inl g
          · exact .inr ⟨fun hq => h.1 (hq5 _ hq), Hv _ (List.mem_map.2 ⟨z, hz, rfl⟩), rfl⟩
      · have hy' := hy
        rw [← hs, ee_] at hy
        rcases fD_ m _ _ y hy with h | h
        · exact .inl (hk5 y h hy3)
        · obtain ⟨z, hz, rfl⟩ := List.mem_map.1 h
          rcases iU_ (stp := bB_ m) (kof := idk) (fun i s z hz => (fD_ m [i] s z hz).imp id (by simp)) (eV_ m) f _ s5.1 fm z hz with g | g
          · exact .inl (hk5 _ g rfl)
          · exact .inr (.inl (by rw [← hs]; exact g))
    · have hf2 : s'.2 = fm := by rw [← hs]; exact mu_ _ (q, fm) (fun h => absurd h h1)
      refine ⟨fun y hy => by rw [hf2]; exact hy, fun y hy => .inl (by rw [← hf2]; exact hy), fun y hy hy3 => ?_⟩
      by_cases h3 : f.kind = 3
      · have e2 : nrl f = 0 + 1 + 1 := by simp [nrl, h3]
        rw [e2, rls] at hs
        rw [← hs] at hy
        have hy1 := mw_ 1 _ (fun h => absurd h h1) (fun _ => by decide) hk y hy hy3
        rw [rls, rl.eq_def, if_neg h1, if_neg (by omega)] at hy1
        rcases fD_ m _ _ y hy1 with h | h
        · exact .inl h
        · rcases List.mem_append.1 h with h | h
          · obtain ⟨z, hz, rfl⟩ := List.mem_map.1 h
            obtain ⟨hz, hcc⟩ := List.mem_filter.1 hz
            obtain ⟨g1, g2, g3, g4⟩ := iG_ hx' hz
            simp only [cL_, Bool.and_eq_true, Bool.not_eq_true', decide_eq_false_iff_not, Int.not_lt] at hcc
            exact .inr (.inr ⟨z, g1, g2, h3, g3, g4, hcc.1, rfl⟩)
          · unfold gB_ at h
            split at h
            · simp at h; rw [h] at hy3; simp [ax_] at hy3
            · simp at h
      · rw [← hs] at hy
        exact .inl (kR_ _ _ (fun h => absurd h h1) h3 hk y hy hy3)
  have hSfm : ∀ y, (y ∈ q.take n ∨ y = f) → (y ∈ fm ↔ y ∈ s'.2) := fun y hy => ⟨fun h => hfm.1 y h, fun h => (hfm.2.1 y h).elim id fun g => absurd (hSq y hy) g.1⟩
  refine ⟨?_, hl, ?_, hder, fun y hy => (hder y hy).form hr, ?_, ?_, ?_, ?_, ?_⟩
  · rw [hL]; exact hr_ m L q inv.nd
  · rw [hpre, List.length_append]; omega
  · have := Ix.of_firm hx' hSfm
    have e : (fun y => y ∈ s'.1.take (n + 1)) = (fun y => y ∈ q.take n ∨ y = f) := funext fun y => propext (hmem y)
    rw [e]; exact this
  · intro y hy
    rcases hfm.2.1 y hy with h | h
    · exact ⟨hsub y (inv.fmq y h).1, (inv.fmq y h).2⟩
    · exact h.2
  · intro y hy hk3
    rcases hfm.2.2 y hy hk3 with h | h | ⟨z, h1, h2, h3, h4, h5, h6, rfl⟩
    · exact (inv.firm y h hk3).mono hfm.1
    · exact .base h
    · exact .meet ((inv.firm f hfq h3).mono hfm.1) ((inv.firm z (hSq z h1) h2).mono hfm.1) h4 h5 h6
  · intro a ha
    obtain ⟨g1, g2, g3⟩ := inv.st a ha
    exact ⟨hsub _ g1, hsub _ g2, fun z hz hk => hsub _ (g3 z hz hk)⟩
  · intro y hy
    have e : (fun y => y ∈ s'.1.take (n + 1)) = (fun y => y ∈ q.take n ∨ y = f) := funext fun y => propext (hmem y)
    rw [e] at hy
    refine ss_ (A := A) hc hSq (fun z hz => hsub z (inv.cl z hz)) y (hy.congrM fun u v hu hv hm => hm.imp (hSfm u hu).2 (hSfm v hv).2)
theorem mm_le {a b c d e g : Int} (h : max a (max b c) ≤ min d (min e g)) : max a b ≤ min d e := by omega
theorem rb_ (inv : InvA ps A m q.length q fm x) (y : Fc) : Der ps A y ↔ y ∈ q := by
  refine ⟨fun h => h.least fun y hy => ?_, inv.der y⟩
  have hcl : ∀ y, One ps A (· ∈ q) (fun y z => y ∈ fm ∨ z ∈ fm) y → y ∈ q := fun y hy => inv.cl y (by rw [List.take_length]; exact hy)
  have key : ∀ f, Fmd fm f → ∀ z ∈ q, z.kind = 3 → z.a = f.a → z.r = f.r → (max z.lo f.lo ≤ min z.hi f.hi → dx_ z f ∈ q) ∧ (min z.hi f.hi < max z.lo f.lo → ax_ z.a [33] ∈ q) := by
    intro f hf
    induction hf with
    | @base f hb =>
      intro z hz hk ha hr'
      obtain ⟨hfq, hfk⟩ := inv.fmq f hb
      have ez := (fs_ (inv.form z hz) hk).1
      have ef := (fs_ (inv.form f hfq) hfk).1
      rw [← ha, ← hr'] at ef
      refine ⟨fun hl => hcl _ (.r12 (by rw [← ez]; exact hz) (by rw [← ef]; exact hfq) (.inr (by rw [← ef]; exact hb)) hl), fun hl => hcl _ (.r13 (r := z.r) (by rw [← ez]; exact hz) (by rw [← ef]; exact hfq) (.inr (by rw [← ef]; exact hb)) hl)⟩
    | @meet y w hy hw ha hr' hl ih1 ih2 =>
      intro z hz hk hza hzr
      have hza' : z.a = y.a := hza
      have hzr' : z.r = y.r := hzr
      obtain ⟨i1, i2⟩ := ih1 z hz hk hza' hzr'
      have hlo : (dx_ y w).lo = max y.lo w.lo := rfl
      have hhi : (dx_ y w).hi = min y.hi w.hi := rfl
      rw [hlo, hhi]
      by_cases hc : max z.lo y.lo ≤ min z.hi y.hi
      · have h1 := i1 hc
        obtain ⟨j1, j2⟩ := ih2 (dx_ z y) h1 rfl (by rw [ha, ← hza']; rfl) (by rw [hr', ← hzr']; rfl)
        have e1 : (dx_ z y).lo = max z.lo y.lo := rfl
        have e2 : (dx_ z y).hi = min z.hi y.hi := rfl
        rw [e1, e2] at j1 j2
        refine ⟨fun hl' => ?_, fun hl' => j2 (by rw [Int.max_assoc, Int.min_assoc]; exact hl')⟩
        have := j1 (by rw [Int.max_assoc, Int.min_assoc]; exact hl')
        have e : dx_ (dx_ z y) w = dx_ z (dx_ y w) := by
          simp only [dx_, aJ_]
          rw [Int.max_assoc, Int.min_assoc]
        rw [← e]; exact this
      · exact ⟨fun hl' => absurd (mm_le hl') hc, fun _ => i2 (Int.not_le.1 hc)⟩
  have key2 : ∀ {a r : Str} {lo hi lo' hi' : Int}, aJ_ a r lo hi ∈ q → aJ_ a r lo' hi' ∈ q → (max lo lo' ≤ min hi hi' → aJ_ a r (max lo lo') (min hi hi') ∈ q) ∧ (min hi hi' < max lo lo' → ax_ a [33] ∈ q) := fun h h' => key _ (inv.firm _ h' rfl) _ h rfl rfl rfl
  cases hy with
  | r1 h => exact hcl _ (.r1 h)
  | r2 h => exact hcl _ (.r2 h)
  | r10 hx hk h => exact hcl _ (.r10 hx hk h)
  | r3 hx hk h => exact hcl _ (.r3 hx hk h)
  | r4 hx hk h h' => exact hcl _ (.r4 hx hk h h')
  | r5 hx hk h => exact hcl _ (.r5 hx hk h)
  | r6 hx hk h => exact hcl _ (.r6 hx hk h)
  | r7 hx hk h h' => exact hcl _ (.r7 hx hk h h')
  | r8 hx hk h h' => exact hcl _ (.r8 hx hk h h')
  | r9 h h' => exact hcl _ (.r9 h h')
  | r11 hx hk h => exact hcl _ (.r11 hx hk h)
  | r12 h h' hm hl => exact (key2 h h').1 hl
  | r13 h h' hm hl => exact (key2 h h').2 hl
  | r14 hx hk h h1 h2 => exact hcl _ (.r14 hx hk h h1 h2)
end
def dU_ (loops : List Str) (A : List Str) : List Fc := A.flatMap fun a => ax_ a a :: ax_ a [42] :: loops.map fun r => aN_ a r a
theorem hd_ {ps : List Pc} {A : List Str} {S : Fc → Prop} {M : Fc → Fc → Prop} : ∀ y ∈ dU_ (ak_ ps) A, One ps A S M y := by
  intro y hy
  obtain ⟨a, ha, hy⟩ := List.mem_flatMap.1 hy
  simp only [List.mem_cons] at hy
  rcases hy with rfl | rfl | hy
  · exact .r1 ha
  · exact .r2 ha
  · obtain ⟨r, hr, rfl⟩ := List.mem_map.1 hy
    obtain ⟨z, hz, rfl⟩ := List.mem_map.1 hr
    obtain ⟨h1, h2⟩ := List.mem_filter.1 hz
    exact .r10 h1 (of_decide_eq_true h2) ha
theorem ge_ {ps : List Pc} {A : List Str} {a : Str} (ha : a ∈ A) : ax_ a a ∈ dU_ (ak_ ps) A ∧ ax_ a [42] ∈ dU_ (ak_ ps) A ∧ ∀ z ∈ ps, z.kind = 7 → aN_ a z.r a ∈ dU_ (ak_ ps) A := by
  refine ⟨List.mem_flatMap.2 ⟨a, ha, by simp⟩, List.mem_flatMap.2 ⟨a, ha, by simp⟩, fun z hz hk => List.mem_flatMap.2 ⟨a, ha, ?_⟩⟩
  exact List.mem_cons_of_mem _ (List.mem_cons_of_mem _ (List.mem_map.2 ⟨z.r, List.mem_map.2 ⟨z, List.mem_filter.2 ⟨hz, decide_eq_true hk⟩, rfl⟩, rfl⟩))
structure LoopA (ps : List Pc) (A : List Str) (m n : Nat) (q fm : List Fc) (x : Ix) : Prop where
  nd : q.Nodup
  len : q.length ≤ m + 1
  le : n ≤ q.length
  der : ∀ y ∈ q, Der ps A y
  ix : x.of (· ∈ q.take n) (· ∈ fm)
  inv : q.length ≤ m → InvA ps A m n q fm x
section
variable {ps : List Pc} {A : List Str} {m n : Nat} {q fm : List Fc} {x : Ix} {f : Fc}
theorem mS_ (hr : ∀ x ∈ ps, x.vok) {q : List Fc} (hq : emits (bB_ m) (dU_ (ak_ ps) A) [] = q) : LoopA ps A m 0 q [] Ix.nil := by
  have hmem : ∀ y ∈ q, y ∈ dU_ (ak_ ps) A := fun y hy => by rw [← hq] at hy; exact (fD_ m _ _ y hy).elim (fun h => by simp at h) id
  have hder : ∀ y ∈ q, Der ps A y := fun y hy => Der.step (hd_ y (hmem y hy))
  have hnd : q.Nodup := by rw [← hq]; exact hr_ m _ _ List.nodup_nil
  have hix : Ix.nil.of (· ∈ q.take 0) (· ∈ ([] : List Fc)) := by
    have e : (fun y => y ∈ q.take 0) = (fun _ => False) := funext fun y => by simp
    rw [e]; exact Ix.of_nil _
  refine ⟨hnd, by rw [← hq]; exact lN_ m _ _ (by simp), Nat.zero_le _, hder, hix, fun hl => ⟨hnd, hl, Nat.zero_le _, hder, fun y hy => (hder y hy).form hr, hix, by simp, fun y hy hk => ?_, fun a ha => ?_, fun y hy => ?_⟩⟩
  · exfalso
    obtain ⟨a, _, h⟩ := List.mem_flatMap.1 (hmem y hy)
    simp only [List.mem_cons] at h
    rcases h with rfl | rfl | h
    · simp [ax_] at hk
    · simp [ax_] at hk
    · obtain ⟨r, _, rfl⟩ := List.mem_map.1 h
      simp [aN_] at hk
  · obtain ⟨g1, g2, g3⟩ := ge_ (ps := ps) ha
    rw [← hq] at hl ⊢
    exact ⟨hs_ m _ _ hl _ g1, hs_ m _ _ hl _ g2, fun z hz hk => hs_ m _ _ hl _ (g3 z hz hk)⟩
  · rw [← hq] at hl
    have B : ∀ a ∈ A, _ := fun a ha => ge_ (ps := ps) ha
    have hin : ∀ z ∈ dU_ (ak_ ps) A, z ∈ q := fun z hz => by rw [← hq]; exact hs_ m _ _ hl z hz
    cases hy with
    | r1 h => exact hin _ (B _ h).1
    | r2 h => exact hin _ (B _ h).2.1
    | r10 hx hk h => exact hin _ ((B _ h).2.2 _ hx hk)
    | r3 hx hk h => simp at h
    | r4 hx hk h h' => simp at h
    | r5 hx hk h => simp at h
    | r6 hx hk h => simp at h
    | r7 hx hk h h' => simp at h
    | r8 hx hk h h' => simp at h
    | r9 h h' => simp at h
    | r11 hx hk h => simp at h
    | r12 h h' hm hl => simp at h
    | r13 h h' hm hl => simp at h
    | r14 hx hk h h1 h2 => simp at h
theorem cx_ (hr : ∀ x ∈ ps, x.vok) (h : LoopA ps A m n q fm x) (hn : q[n]? = some f) (j : Nat) {s' : List Fc × List Fc} (hs : rls (bB_ m) idk (aP_ ps) (x.add (decide (f ∈ fm)) f) f j (q, fm) = s') :
    s'.1.Nodup ∧ s'.1.length ≤ m + 1 ∧ (∀ y ∈ s'.1, Der ps A y) ∧ ∃ t, s'.1 = q ++ t := by
  have hfq : f ∈ q := List.mem_of_getElem? hn
  have hSq : ∀ y, (y ∈ q.take n ∨ y = f) → y ∈ q := fun y hy => hy.elim (fun h => List.mem_of_mem_take h) (fun h => h ▸ hfq)
  obtain ⟨L, hL⟩ := hl_ (ps := ps) (x := x.add (decide (f ∈ fm)) f) (f := f) (eV_ m) j (q, fm)
  rw [hs] at hL
  refine ⟨by rw [hL]; exact hr_ m L q h.nd, by rw [hL]; exact lN_ m L q h.len, ?_, by rw [hL]; exact iq_ m L q⟩
  rw [← hs]
  exact jN_ hr (Ix.of_add h.ix f (by simp)) (fun y hy => (h.der y (hSq y hy)).form hr) ((h.der f hfq).form hr) (q, fm) hSq hfq h.der j
theorem hL_ (hr : ∀ x ∈ ps, x.vok) (h : LoopA ps A m n q fm x) (hn : q[n]? = some f) {s' : List Fc × List Fc} (hs : rls (bB_ m) idk (aP_ ps) (x.add (decide (f ∈ fm)) f) f (nrl f) (q, fm) = s') (hl : s'.1.length ≤ m) :
    LoopA ps A m (n + 1) s'.1 s'.2 (x.add (decide (f ∈ fm)) f) := by
  obtain ⟨_, _, _, t, ht⟩ := cx_ hr h hn (nrl f) hs
  have hi := ra_ hr (h.inv (by rw [ht, List.length_append] at hl; omega)) hn hs hl
  exact ⟨hi.nd, by have := hi.len; omega, hi.le, hi.der, hi.ix, fun _ => hi⟩
theorem nI_ (h : LoopA ps A m q.length q fm x) (hl : q.length ≤ m) (y : Fc) : Der ps A y ↔ y ∈ q := rb_ (h.inv hl) y
end
theorem sG_ (x : Pc) : ∃ n, { x.zf with frm := n } = x := ⟨x.frm, rfl⟩
theorem mj_ {p : List Pc} {A : List Str} {y : Fc} : Der (uniq [] p) A y ↔ Der p A y := by
  constructor
  · refine Der.mono (fun x hx => ?_) (fun _ h => h)
    rcases (fL_ p [] x).1 hx with h | ⟨z, hz, rfl⟩
    · simp at h
    · exact ⟨z, hz, 0, rfl⟩
  · exact Der.mono (fun x hx => ⟨x.zf, (fL_ p [] _).2 (.inr ⟨x, hx, rfl⟩), sG_ x⟩) (fun _ h => h)
theorem mi_ {p : List Pc} {A : List Str} {S : Fc → Prop} {y : Fc} : eb_ (uniq [] p) A S y ↔ eb_ p A S y := by
  constructor
  · refine One.mono (fun x hx => ?_) (fun _ h => h) (fun _ h => h) (fun _ _ h => h)
    rcases (fL_ p [] x).1 hx with h | ⟨z, hz, rfl⟩
    · simp at h
    · exact ⟨z, hz, 0, rfl⟩
  · exact One.mono (fun x hx => ⟨x.zf, (fL_ p [] _).2 (.inr ⟨x, hx, rfl⟩), sG_ x⟩) (fun _ h => h) (fun _ h => h) (fun _ _ h => h)
theorem mh_ {p : List Pc} (h : ∀ x ∈ p, x.vok) : ∀ x ∈ uniq [] p, x.vok := fun x hx => by
  rcases (fL_ p [] x).1 hx with h1 | ⟨z, hz, rfl⟩
  · simp at h1
  · exact ⟨(h z hz).rok, (h z hz).num⟩
def Fc.lt (x y : Fc) : Prop := x.kind < y.kind ∨ x.kind = y.kind ∧ (x.a < y.a ∨ x.a = y.a ∧ (x.b < y.b ∨ x.b = y.b ∧ (x.r < y.r ∨ x.r = y.r ∧ (x.lo < y.lo ∨ x.lo = y.lo ∧ x.hi < y.hi))))
instance (x y : Fc) : Decidable (Fc.lt x y) := by unfold Fc.lt; exact inferInstance
theorem jq_ (x : Str) : ¬ x < x := List.lt_irrefl x
theorem lp_ (x y : Str) : x < y ∨ x = y ∨ y < x := by
  by_cases h : x < y
  · exact .inl h
  · by_cases h' : y < x
    · exact .inr (.inr h')
    · exact .inr (.inl (List.le_antisymm (List.not_lt.1 h') (List.not_lt.1 h)))
theorem Fc.lt_irr (x : Fc) : ¬ x.lt x := by
  unfold Fc.lt
  simp [jq_]
theorem Fc.lt_tri (x y : Fc) : x.lt y ∨ x = y ∨ y.lt x := by
  unfold Fc.lt
  rcases Int.lt_trichotomy x.kind y.kind with h | h | h
  · exact .inl (.inl h)
  · rcases lp_ x.a y.a with h1 | h1 | h1
    · exact .inl (.inr ⟨h, .inl h1⟩)
    · rcases lp_ x.b y.b with h2 | h2 | h2
      · exact .inl (.inr ⟨h, .inr ⟨h1, .inl h2⟩⟩)
      · rcases lp_ x.r y.r with h3 | h3 | h3
        · exact .inl (.inr ⟨h, .inr ⟨h1, .inr ⟨h2, .inl h3⟩⟩⟩)
        · rcases Int.lt_trichotomy x.lo y.lo with h4 | h4 | h4
          · exact .inl (.inr ⟨h, .inr ⟨h1, .inr ⟨h2, .inr ⟨h3, .inl h4⟩⟩⟩⟩)
          · rcases Int.lt_trichotomy x.hi y.hi with h5 | h5 | h5
            · exact .inl (.inr ⟨h, .inr ⟨h1, .inr ⟨h2, .inr ⟨h3, .inr ⟨h4, h5⟩⟩⟩⟩⟩)
            · refine .inr (.inl ?_); cases x; cases y; simp_all
            · exact .inr (.inr (.inr ⟨h.symm, .inr ⟨h1.symm, .inr ⟨h2.symm, .inr ⟨h3.symm, .inr ⟨h4.symm, h5⟩⟩⟩⟩⟩))
          · exact .inr (.inr (.inr ⟨h.symm, .inr ⟨h1.symm, .inr ⟨h2.symm, .inr ⟨h3.symm, .inl h4⟩⟩⟩⟩))
        · exact .inr (.inr (.inr ⟨h.symm, .inr ⟨h1.symm, .inr ⟨h2.symm, .inl h3⟩⟩⟩))
      · exact .inr (.inr (.inr ⟨h.symm, .inr ⟨h1.symm, .inl h2⟩⟩))
    · exact .inr (.inr (.inr ⟨h.symm, .inl h1⟩))
  · exact .inr (.inr (.inl h))
theorem fT_ {α : Type} {lt : α → α → Prop} (ht : ∀ {x y z}, lt x y → lt y z → lt x z) {x y z : α} {P Q R : Prop} (hr : x = y → y = z → P → Q → R) (h1 : lt x y ∨ x = y ∧ P) (h2 : lt y z ∨ y = z ∧ Q) : lt x z ∨ x = z ∧ R := by
  rcases h1 with h1 | ⟨rfl, h1⟩
  · rcases h2 with h2 | ⟨rfl, h2⟩
    · exact .inl (ht h1 h2)
    · exact .inl h1
  · rcases h2 with h2 | ⟨rfl, h2⟩
    · exact .inl h2
    · exact .inr ⟨rfl, hr rfl rfl h1 h2⟩
theorem Fc.lt_trans {x y z : Fc} (h1 : x.lt y) (h2 : y.lt z) : x.lt z :=
  fT_ (lt := fun a b : Int => a < b) Int.lt_trans (fun _ _ => fT_ (lt := fun a b : Str => a < b) List.lt_trans (fun _ _ => fT_ (lt := fun a b : Str => a < b) List.lt_trans (fun _ _ => fT_ (lt := fun a b : Str => a < b) List.lt_trans (fun _ _ => fT_ (lt := fun a b : Int => a < b) Int.lt_trans fun _ _ => Int.lt_trans)))) h1 h2
theorem gm_ {α : Type} {lt : α → α → Prop} (hi : ∀ x, ¬ lt x x) (ht : ∀ {x y z}, lt x y → lt y z → lt x z) : ∀ {l m : List α}, l.Pairwise lt → m.Pairwise lt → (∀ x, x ∈ l ↔ x ∈ m) → l = m
  | [], [], _, _, _ => rfl
  | [], y :: m, _, _, h => by have := (h y).2 (by simp); simp at this
  | x :: l, [], _, _, h => by have := (h x).1 (by simp); simp at this
  | x :: l, y :: m, h1, h2, h => by
    rw [List.pairwise_cons] at h1 h2
    have e : x = y := by
      rcases List.mem_cons.1 ((h x).1 (by simp)) with e | hx
      · exact e
      · rcases List.mem_cons.1 ((h y).2 (by simp)) with e | hy
        · exact e.symm
        · exact absurd (ht (h1.1 y hy) (h2.1 x hx)) (hi x)
    subst e
    congr 1
    refine gm_ hi ht h1.2 h2.2 fun z => ⟨fun hz => ?_, fun hz => ?_⟩
    · rcases List.mem_cons.1 ((h z).1 (by simp [hz])) with rfl | q
      · exact absurd (h1.1 z hz) (hi z)
      · exact q
    · rcases List.mem_cons.1 ((h z).2 (by simp [hz])) with rfl | q
      · exact absurd (h2.1 z hz) (hi z)
      · exact q
abbrev Srt (l : List Fc) : Prop := l.Pairwise Fc.lt
theorem Srt.ext {l m : List Fc} (h1 : Srt l) (h2 : Srt m) (h : ∀ x, x ∈ l ↔ x ∈ m) : l = m := gm_ Fc.lt_irr Fc.lt_trans h1 h2 h
theorem Srt.nodup {l : List Fc} (h : Srt l) : l.Nodup := by
  unfold List.Nodup
  refine List.Pairwise.imp ?_ h
  intro a b hab e
  exact Fc.lt_irr b (e ▸ hab)
def ev_ (p : List Pc) (A : List Str) (m : Nat) : Option (List Fc) → Prop
  | some L => Srt L ∧ (∀ y, y ∈ L ↔ Der p A y) ∧ L.length ≤ m
  | none => ∃ M : List Fc, M.Nodup ∧ (∀ y ∈ M, Der p A y) ∧ m < M.length
theorem fR_ {α : Type} [DecidableEq α] : ∀ {l m : List α}, l.Nodup → (∀ x ∈ l, x ∈ m) → l.length ≤ m.length
  | [], m, _, _ => by simp
  | x :: l, m, h, hs => by
    rw [List.nodup_cons] at h
    have := fR_ (l := l) (m := m.erase x) h.2 fun y hy => by
      have hne : y ≠ x := fun e => h.1 (e ▸ hy)
      exact (List.mem_erase_of_ne hne).2 (hs y (by simp [hy]))
    have hx := hs x (by simp)
    rw [List.length_erase_of_mem hx] at this
    have : 0 < m.length := List.length_pos_of_mem hx
    simp only [List.length_cons]
    omega
theorem ev_.uniq {p : List Pc} {A : List Str} {m : Nat} {r r' : Option (List Fc)} (h : ev_ p A m r) (h' : ev_ p A m r') : r = r' := by
  cases r with
  | none =>
    cases r' with
    | none => rfl
    | some L =>
      obtain ⟨M, h1, h2, h3⟩ := h
      obtain ⟨_, g2, g3⟩ := h'
      have := fR_ h1 fun x hx => (g2 x).2 (h2 x hx)
      omega
  | some L =>
    cases r' with
    | none =>
      obtain ⟨M, h1, h2, h3⟩ := h'
      obtain ⟨_, g2, g3⟩ := h
      have := fR_ h1 fun x hx => (g2 x).2 (h2 x hx)
      omega
    | some L' => rw [h.1.ext h'.1 fun x => by rw [h.2.1, h'.2.1]]
end Go.Vs
namespace Go.Vs
open Go Go.Sx
def dw_ (c : List Fc) (y : Fc) (s : List Fc) : List Fc := if y ∈ c ∨ y ∈ s then s else s ++ [y]
abbrev eN_ (c : List Fc) : List Fc → List Fc := fun _ => c
theorem iM_ (c : List Fc) : Grows (dw_ c) (eN_ c) := ⟨fun _ _ _ h => h⟩
theorem hq_ (c : List Fc) : ∀ (L s : List Fc) (z : Fc), z ∈ emits (dw_ c) L s ↔ z ∈ s ∨ (z ∈ L ∧ z ∉ c)
  | [], s, z => by simp [emits]
  | y :: L, s, z => by
    have e : emits (dw_ c) (y :: L) s = emits (dw_ c) L (dw_ c y s) := rfl
    rw [e, hq_ c L]
    unfold dw_
    split
    · rename_i h
      constructor
      · rintro (h1 | ⟨h1, h2⟩)
        · exact .inl h1
        · exact .inr ⟨by simp [h1], h2⟩
      · rintro (h1 | ⟨h1, h2⟩)
        · exact .inl h1
        · rcases List.mem_cons.1 h1 with rfl | h1
          · exact .inl (h.resolve_left h2)
          · exact .inr ⟨h1, h2⟩
    · rename_i h
      simp only [not_or] at h
      constructor
      · rintro (h1 | ⟨h1, h2⟩)
        · rcases List.mem_append.1 h1 with h1 | h1
          · exact .inl h1
          · simp at h1; subst h1; exact .inr ⟨by simp, h.1⟩
        · exact .inr ⟨by simp [h1], h2⟩
      · rintro (h1 | ⟨h1, h2⟩)
        · exact .inl (by simp [h1])
        · rcases List.mem_cons.1 h1 with rfl | h1
          · exact .inl (by simp)
          · exact .inr ⟨h1, h2⟩
theorem iP_ (c : List Fc) : ∀ (L s : List Fc), s.Nodup → (emits (dw_ c) L s).Nodup
  | [], s, h => h
  | y :: L, s, h => by
    refine iP_ c L (dw_ c y s) ?_
    unfold dw_
    split
    · exact h
    · rename_i hc
      simp only [not_or] at hc
      rw [List.nodup_append]
      exact ⟨h, by simp, fun a ha b hb e => by simp at hb; subst hb; subst e; exact hc.2 ha⟩
section
variable {ps : List Pc} {A : List Str} {c : List Fc} {x : Ix} {f : Fc}
theorem pl_ (hr : ∀ x ∈ ps, x.vok) {Fm : Fc → Prop} (hx : x.of (· ∈ c) Fm) (hS : ∀ y ∈ c, y.form) (hf : f ∈ c) (j : Nat) (s : List Fc × List Fc) :
    ∀ y ∈ (rl (dw_ c) (eN_ c) (aP_ ps) x f j s).1, y ∈ s.1 ∨ (eb_ ps A (· ∈ c) y ∧ y ∉ c) := by
  have E : ∀ L, (∀ y ∈ L, eb_ ps A (· ∈ c) y) → ∀ y ∈ emits (dw_ c) L s.1, y ∈ s.1 ∨ (eb_ ps A (· ∈ c) y ∧ y ∉ c) := fun L hL y hy => by
    rcases (hq_ c L s.1 y).1 hy with h | h
    · exact .inl h
    · exact .inr ⟨hL y h.1, h.2⟩
  have hff := hS f hf
  have hk := fh_ hff
  unfold rl
  split
  · rename_i h1
    split
    · exact E _ (hA_ h1 hff hf)
    · obtain ⟨L, e1, e2, _⟩ := el_ (iM_ c) f (lat (aP_ ps) ⟨2, [], f.b⟩) s.1
      rw [e1]
      refine E L fun y hy => ?_
      obtain ⟨z, hz, rfl, g1, g2⟩ := e2 y hy
      obtain ⟨q1, q2, _⟩ := pm2.1 hz
      exact .r4 q1 q2 g1 g2
    · exact E _ (jJ_ h1 hff hf)
    · exact E _ (gZ_ hr hx hS (fun _ h => h) h1 hff hf)
    · exact E _ (gE_ hx hS (fun _ h => h) h1 hff hf)
    · rw [ee_]; exact E _ (iT_ h1 hff hf)
  · split
    · rename_i h2
      split
      · exact E _ (hy_ h2 hff hf)
      · exact E _ (jj_ hx hS (fun _ h => h) h2 hff hf)
      · exact E _ (gX_ hx hS (fun _ h => h) h2 hff hf)
      · simp only
        split
        · rename_i hc
          exact E [ax_ f.a [33]] (fun y hy => by simp at hy; subst hy; exact gD_ h2 hff hf hc)
        · exact fun y hy => .inl hy
    · rename_i h1 h2
      have h3 : f.kind = 3 := by omega
      split
      · exact E _ (ki_ hx hS (fun _ h => h) h3 hff hf)
      · exact E _ (kW_ h3 hff hf)
theorem nA_ (hr : ∀ x ∈ ps, x.vok) {Fm : Fc → Prop} (hx : x.of (· ∈ c) Fm) (hS : ∀ y ∈ c, y.form) (hf : f ∈ c) (s : List Fc × List Fc) (j : Nat) :
    ∀ y ∈ (rls (dw_ c) (eN_ c) (aP_ ps) x f j s).1, y ∈ s.1 ∨ (eb_ ps A (· ∈ c) y ∧ y ∉ c) := by
  induction j with
  | zero => exact fun y hy => .inl hy
  | succ j ih => exact fun y hy => (pl_ (A := A) hr hx hS hf j _ y hy).elim (ih y) .inr
theorem or_ (j k : Nat) (s : List Fc × List Fc) : ∀ y ∈ (rls (dw_ c) (eN_ c) (aP_ ps) x f j s).1, y ∈ (rls (dw_ c) (eN_ c) (aP_ ps) x f (j + k) s).1 := by
  induction k with
  | zero => exact fun y hy => hy
  | succ k ih =>
    intro y hy
    obtain ⟨L, h⟩ := jO_ (ps := ps) (x := x) (f := f) (iM_ c) (j + k) (rls (dw_ c) (eN_ c) (aP_ ps) x f (j + k) s)
    rw [← Nat.add_assoc, rls, h, hq_]
    exact .inl (ih y hy)
theorem mt_ (stp : Fc → List Fc → List Fc) (kof : List Fc → List Fc) (hg : Grows stp kof) (j : Nat) (s : List Fc × List Fc) : ∀ y ∈ s.2, y ∈ (rls stp kof (aP_ ps) x f j s).2 := by
  induction j with
  | zero => exact fun y hy => hy
  | succ j ih =>
    intro y hy
    have := ih y hy
    rw [rls, rl.eq_def]
    split
    · split
      · exact this
      · exact this
      · exact this
      · exact this
      · exact this
      · exact (fm_ hg f _ _ _ _).2 (.inl this)
    · split
      · split <;> exact this
      · split <;> exact this
structure InvN (ps : List Pc) (A : List Str) (c : List Fc) (k : Nat) (s : List Fc × List Fc) : Prop where
  nd : s.1.Nodup
  snd : ∀ y ∈ s.1, eb_ ps A (· ∈ c) y ∧ y ∉ c
  fm : ∀ y ∈ c, y ∈ s.2
  st : ∀ y ∈ dU_ (ak_ ps) A, y ∈ s.1 ∨ y ∈ c
  cm : ∀ f ∈ c.take k, Cmpl ps (· ∈ c) (fun _ => True) (· ∈ c) (fun y => y ∈ s.1 ∨ y ∈ c) f
theorem Cmpl.up {S Fm kn good good' : Fc → Prop} (h : Cmpl ps S Fm kn good f) (hg : ∀ y, good y → good' y) : Cmpl ps S Fm kn good' f :=
  ⟨fun z a h1 h2 h3 => hg _ (h.c3 z a h1 h2 h3), fun z a h1 h2 h3 h4 => hg _ (h.c4 z a h1 h2 h3 h4), fun z a h1 h2 h3 h4 => hg _ (h.c4' z a h1 h2 h3 h4), fun z a h1 h2 h3 => hg _ (h.c5 z a h1 h2 h3), fun z a b h1 h2 h3 => hg _ (h.c6 z a b h1 h2 h3),
   fun z a b c h1 h2 h3 h4 => hg _ (h.c7 z a b c h1 h2 h3 h4), fun z a b c h1 h2 h3 h4 => hg _ (h.c7' z a b c h1 h2 h3 h4), fun z a b h1 h2 h3 h4 => hg _ (h.c8 z a b h1 h2 h3 h4), fun z a b h1 h2 h3 h4 => hg _ (h.c8' z a b h1 h2 h3 h4), fun a r b h1 h2 => hg _ (h.c9 a r b h1 h2), fun a r b h1 h2 => hg _ (h.c9' a r b h1 h2),
   fun z a h1 h2 h3 => hg _ (h.c11 z a h1 h2 h3), fun y h1 h2 h3 h4 h5 h6 h7 => hg _ (h.c12 y h1 h2 h3 h4 h5 h6 h7), fun y h1 h2 h3 h4 h5 h6 h7 => hg _ (h.c13 y h1 h2 h3 h4 h5 h6 h7), fun z a lo hi h1 h2 h3 h4 h5 => hg _ (h.c14 z a lo hi h1 h2 h3 h4 h5)⟩
theorem nP_ {fm : List Fc} (hfm : ∀ y ∈ c, y ∈ fm) : InvN ps A c 0 (emits (dw_ c) (dU_ (ak_ ps) A) [], fm) := by
  refine ⟨iP_ c _ _ List.nodup_nil, fun y hy => ?_, hfm, fun y hy => ?_, by simp⟩
  · rcases (hq_ c _ _ y).1 hy with h | h
    · simp at h
    · exact ⟨hd_ y h.1, h.2⟩
  · by_cases h : y ∈ c
    · exact .inr h
    · exact .inl ((hq_ c _ _ y).2 (.inr ⟨hy, h⟩))
theorem iK_ (hr : ∀ x ∈ ps, x.vok) (hx : x.of (· ∈ c) (fun _ => True)) (hS : ∀ y ∈ c, y.form) {k : Nat} {s s' : List Fc × List Fc} (h : InvN ps A c k s) (hf : c[k]? = some f) (hs : rls (dw_ c) (eN_ c) (aP_ ps) x f (nrl f) s = s') : InvN ps A c (k + 1) s' := by
  have hfc : f ∈ c := List.mem_of_getElem? hf
  have hup : ∀ y ∈ s.1, y ∈ s'.1 := fun y hy => by rw [← hs]; have := or_ (ps := ps) (x := x) (f := f) (c := c) 0 (nrl f) s y hy; rwa [Nat.zero_add] at this
  have hcm : Cmpl ps (· ∈ c) (fun _ => True) (· ∈ c) (fun y => y ∈ s'.1 ∨ y ∈ c) f := by
    refine mv_ (iM_ c) hr hx s (fun y hy => ⟨fun _ => h.fm y hy, fun _ => trivial⟩) hfc (fun y hy => hy) _ (fun y hy => .inr hy) fun j hj L hL y hy => ?_
    by_cases hyc : y ∈ c
    · exact .inr hyc
    · refine .inl ?_
      have := or_ (ps := ps) (x := x) (f := f) (c := c) (j + 1) (nrl f - (j + 1)) s y (by rw [hL, hq_]; exact .inr ⟨hy, hyc⟩)
      rw [show j + 1 + (nrl f - (j + 1)) = nrl f by omega, hs] at this
      exact this
  refine ⟨?_, fun y hy => ?_, fun y hy => by rw [← hs]; exact mt_ _ _ (iM_ c) _ s y (h.fm y hy), fun y hy => (h.st y hy).imp (hup y) id, fun g hg => ?_⟩
  · obtain ⟨L, hL⟩ := hl_ (ps := ps) (x := x) (f := f) (iM_ c) (nrl f) s
    rw [← hs, hL]; exact iP_ c L _ h.nd
  · rw [← hs] at hy
    exact (nA_ (A := A) hr hx hS hfc s _ y hy).elim (h.snd y) id
  · rcases (ml_ hf).1 hg with hg | rfl
    · exact (h.cm g hg).up fun y hy => hy.imp (hup y) id
    · exact hcm
theorem nk_ {good : Fc → Prop} (hb : ∀ y ∈ dU_ (ak_ ps) A, good y) (hc : ∀ f ∈ c, Cmpl ps (· ∈ c) (fun _ => True) (· ∈ c) good f) {y : Fc} (h : eb_ ps A (· ∈ c) y) : good y := by
  cases h with
  | r1 h => exact hb _ (ge_ h).1
  | r2 h => exact hb _ (ge_ h).2.1
  | r10 hx hk h => exact hb _ ((ge_ h).2.2 _ hx hk)
  | r3 hx hk h => exact (hc _ h).c3 _ _ hx hk rfl
  | r4 hx hk h h' => exact (hc _ h).c4 _ _ hx hk rfl h'
  | r5 hx hk h => exact (hc _ h).c5 _ _ hx hk rfl
  | r6 hx hk h => exact (hc _ h).c6 _ _ _ hx hk rfl
  | r7 hx hk h h' => exact (hc _ h).c7 _ _ _ _ hx hk rfl h'
  | r8 hx hk h h' => exact (hc _ h).c8 _ _ _ hx hk rfl h'
  | r9 h h' => exact (hc _ h).c9 _ _ _ rfl h'
  | r11 hx hk h => exact (hc _ h).c11 _ _ hx hk rfl
  | r12 h h' hm hl => exact (hc _ h).c12 _ rfl h' rfl rfl rfl (.inl trivial) hl
  | r13 h h' hm hl => exact (hc _ h).c13 _ rfl h' rfl rfl rfl (.inl trivial) hl
  | r14 hx hk h h1 h2 => exact (hc _ h).c14 _ _ _ _ hx hk rfl h1 h2
theorem ld_ {s : List Fc × List Fc} (h : InvN ps A c c.length s) (y : Fc) : y ∈ s.1 ↔ eb_ ps A (· ∈ c) y ∧ y ∉ c := by
  refine ⟨h.snd y, fun ⟨h1, h2⟩ => ?_⟩
  exact (nk_ h.st (fun f hf => h.cm f (by rw [List.take_length]; exact hf)) h1).resolve_right h2
end
def ez_ (l : List Fc) (f : Fc) : Nat := l.countP fun y => decide (y.lt f)
def nQ_ (l : List Fc) (f : Fc) : List Fc := if f ∈ l then l else l.take (ez_ l f) ++ f :: l.drop (ez_ l f)
theorem iW_ : ∀ {l : List Fc} (f : Fc), Srt l → (∀ y ∈ l.take (ez_ l f), y.lt f) ∧ (∀ y ∈ l.drop (ez_ l f), ¬ y.lt f)
  | [], f, _ => by simp [ez_]
  | x :: l, f, h => by
    rw [Srt, List.pairwise_cons] at h
    obtain ⟨i1, i2⟩ := iW_ f h.2
    by_cases hx : x.lt f
    · have e : ez_ (x :: l) f = ez_ l f + 1 := by simp [ez_, hx]
      rw [e]
      simp only [List.take_succ_cons, List.drop_succ_cons]
      exact ⟨fun y hy => (List.mem_cons.1 hy).elim (fun q => q ▸ hx) (i1 y), i2⟩
    · have hall : ∀ y ∈ l, ¬ y.lt f := fun y hy q => hx (Fc.lt_trans (h.1 y hy) q)
      have e : ez_ (x :: l) f = 0 := by
        simp only [ez_, List.countP_cons, hx, decide_false, Bool.false_eq_true, if_false, Nat.add_zero]
        rw [List.countP_eq_zero]
        intro y hy; simpa using hall y hy
      rw [e]
      simp only [List.take_zero, List.not_mem_nil, false_imp_iff, implies_true, true_and, List.drop_zero]
      intro y hy
      rcases List.mem_cons.1 hy with rfl | hy
      · exact hx
      · exact hall y hy
theorem re_ (l : List Fc) (f y : Fc) : y ∈ nQ_ l f ↔ y ∈ l ∨ y = f := by
  unfold nQ_
  split
  · rename_i h
    exact ⟨.inl, fun q => q.elim id fun e => e ▸ h⟩
  · have : y ∈ l ↔ y ∈ l.take (ez_ l f) ∨ y ∈ l.drop (ez_ l f) := by rw [← List.mem_append, List.take_append_drop]
    rw [this]
    simp only [List.mem_append, List.mem_cons]
    constructor
    · rintro (h | h | h)
      · exact .inl (.inl h)
      · exact .inr h
      · exact .inl (.inr h)
    · rintro ((h | h) | h)
      · exact .inl h
      · exact .inr (.inr h)
      · exact .inr (.inl h)
theorem rd_ {l : List Fc} (f : Fc) (h : Srt l) : Srt (nQ_ l f) := by
  unfold nQ_
  split
  · exact h
  · rename_i hn
    obtain ⟨h1, h2⟩ := iW_ f h
    have hd : ∀ y ∈ l.drop (ez_ l f), f.lt y := fun y hy => by
      rcases Fc.lt_tri f y with q | q | q
      · exact q
      · exact absurd (List.mem_of_mem_drop hy) (q ▸ hn)
      · exact absurd q (h2 y hy)
    rw [Srt, List.pairwise_append]
    refine ⟨h.sublist (List.take_sublist _ _), List.pairwise_cons.2 ⟨hd, h.sublist (List.drop_sublist _ _)⟩, fun a ha b hb => ?_⟩
    rcases List.mem_cons.1 hb with rfl | hb
    · exact h1 a ha
    · exact Fc.lt_trans (h1 a ha) (hd b hb)
def subA (p : List Pc) (l : List Fc) (f : Fc) : List Fc := p.flatMap fun x =>
  if x.kind = 1 ∧ x.a = f.b then [ax_ f.a x.c]
  else if x.kind = 2 ∧ (x.a = f.b ∧ ax_ f.a x.b ∈ l ∨ x.b = f.b ∧ ax_ f.a x.a ∈ l) then [ax_ f.a x.c]
  else if x.kind = 3 ∧ x.a = f.b then [aN_ f.a x.r x.c]
  else if x.kind = 8 ∧ x.a = f.b then [aJ_ f.a x.r x.lo x.hi]
  else []
def sH_ (p : List Pc) (f y : Fc) : List Fc := p.flatMap fun x => if x.kind = 4 ∧ x.r = y.r ∧ x.a = f.b then [ax_ y.a x.c] else []
def oY_ (p : List Pc) (f y : Fc) : List Fc := if y.kind ≠ 2 ∨ y.b ≠ f.a then [] else (if f.b = [33] then [ax_ y.a [33]] else []) ++ sH_ p f y
def subS (p : List Pc) (l : List Fc) (f : Fc) : List Fc := subA p l f ++ l.flatMap (oY_ p f)
def la_ (x : Pc) (f y : Fc) : List Fc := if y.kind ≠ 2 then [] else (if x.r = f.r ∧ y.a = f.b ∧ y.r = x.s then [aN_ f.a x.t y.b] else []) ++ (if x.s = f.r ∧ y.b = f.a ∧ y.r = x.r then [aN_ y.a x.t f.b] else [])
def ja_ (l : List Fc) (f : Fc) (x : Pc) : List Fc :=
  if x.kind = 5 ∧ x.r = f.r then [aN_ f.a x.t f.b]
  else if x.kind = 4 ∧ x.r = f.r ∧ ax_ f.b x.a ∈ l then [ax_ f.a x.c]
  else if x.kind = 6 then l.flatMap (la_ x f) else []
def qQ_ (p : List Pc) (l : List Fc) (f : Fc) : List Fc := (if ax_ f.b [33] ∈ l then [ax_ f.a [33]] else []) ++ p.flatMap (ja_ l f)
def iC_ (f y : Fc) : List Fc := if y.kind ≠ 3 ∨ y.a ≠ f.a ∨ y.r ≠ f.r then [] else if max f.lo y.lo ≤ min f.hi y.hi then [dx_ f y] else [ax_ f.a [33]]
def jT_ (f : Fc) (x : Pc) : List Fc := if x.kind = 9 ∧ x.r = f.r ∧ x.lo ≤ f.lo ∧ f.hi ≤ x.hi then [ax_ f.a x.c] else []
def nB_ (p : List Pc) (l : List Fc) (f : Fc) : List Fc := l.flatMap (iC_ f) ++ p.flatMap (jT_ f)
def eH_ (p : List Pc) (l : List Fc) (f : Fc) : List Fc := if f.kind = 1 then subS p l f else if f.kind = 2 then qQ_ p l f else nB_ p l f
def gV_ (p : List Pc) (A : List Str) : List Fc := A.flatMap fun a => ax_ a a :: ax_ a [42] :: (p.filter fun x => decide (x.kind = 7)).map fun x => aN_ a x.r a
theorem lj_ (p : List Pc) (A : List Str) : gV_ p A = dU_ (ak_ p) A := by
  unfold gV_ dU_ ak_
  simp [List.map_map, Function.comp_def]
section
variable {p : List Pc} {A : List Str} {l : List Fc} {f : Fc}
theorem mn_ (hf : f ∈ l) (hF : ∀ y ∈ l, y.form) : ∀ y ∈ eH_ p l f, eb_ p A (· ∈ l) y := by
  have hff := hF f hf
  have hk := fh_ hff
  intro y hy
  unfold eH_ at hy
  split at hy
  · rename_i h1
    have ef := ks_ hff h1
    rcases List.mem_append.1 hy with hy | hy
    · obtain ⟨x, hx, hy⟩ := List.mem_flatMap.1 hy
      split at hy
      · rename_i hc
        simp at hy; subst hy
        exact .r3 hx hc.1 (by rw [hc.2, ← ef]; exact hf)
      · split at hy
        · rename_i hc
          simp at hy; subst hy
          rcases hc.2 with h | h
          · exact .r4 hx hc.1 (by rw [h.1, ← ef]; exact hf) h.2
          · exact .r4 hx hc.1 h.2 (by rw [h.1, ← ef]; exact hf)
        · split at hy
          · rename_i hc
            simp at hy; subst hy
            exact .r5 hx hc.1 (by rw [hc.2, ← ef]; exact hf)
          · split at hy
            · rename_i hc
              simp at hy; subst hy
              exact .r11 hx hc.1 (by rw [hc.2, ← ef]; exact hf)
            · simp at hy
    · obtain ⟨g, hg, hy⟩ := List.mem_flatMap.1 hy
      unfold oY_ at hy
      split at hy
      · simp at hy
      · rename_i hc
        simp only [not_or, Decidable.not_not] at hc
        have eg := (im_ (hF g hg) hc.1).1
        rcases List.mem_append.1 hy with hy | hy
        · split at hy
          · rename_i hb
            simp at hy; subst hy
            exact .r9 (r := g.r) (b := g.b) (by rw [← eg]; exact hg) (by rw [hc.2, ← hb, ← ef]; exact hf)
          · simp at hy
        · obtain ⟨x, hx, hy⟩ := List.mem_flatMap.1 hy
          split at hy
          · rename_i hd
            simp at hy; subst hy
            exact .r8 (b := g.b) hx hd.1 (by rw [hd.2.1, ← eg]; exact hg) (by rw [hc.2, hd.2.2, ← ef]; exact hf)
          · simp at hy
  · split at hy
    · rename_i h2
      have ef := (im_ hff h2).1
      rcases List.mem_append.1 hy with hy | hy
      · split at hy
        · rename_i hb
          simp at hy; subst hy
          exact .r9 (r := f.r) (b := f.b) (by rw [← ef]; exact hf) hb
        · simp at hy
      · obtain ⟨x, hx, hy⟩ := List.mem_flatMap.1 hy
        unfold ja_ at hy
        split at hy
        · rename_i hc
          simp at hy; subst hy
          exact .r6 hx hc.1 (by rw [hc.2, ← ef]; exact hf)
        · split at hy
          · rename_i hc
            simp at hy; subst hy
            exact .r8 (b := f.b) hx hc.1 (by rw [hc.2.1, ← ef]; exact hf) hc.2.2
          · split at hy
            · rename_i hc
              obtain ⟨g, hg, hy⟩ := List.mem_flatMap.1 hy
              unfold la_ at hy
              split at hy
              · simp at hy
              · rename_i hgk
                have eg := (im_ (hF g hg) (Decidable.not_not.1 hgk)).1
                rcases List.mem_append.1 hy with hy | hy
                · split at hy
                  · rename_i hd
                    simp at hy; subst hy
                    exact .r7 (b := f.b) hx hc (by rw [hd.1, ← ef]; exact hf) (by rw [← hd.2.2, ← hd.2.1, ← eg]; exact hg)
                  · simp at hy
                · split at hy
                  · rename_i hd
                    simp at hy; subst hy
                    exact .r7 (b := f.a) hx hc (by rw [← hd.2.2, ← hd.2.1, ← eg]; exact hg) (by rw [hd.1, ← ef]; exact hf)
                  · simp at hy
            · simp at hy
    · rename_i h1 h2
      have h3 : f.kind = 3 := by omega
      have ef := (fs_ hff h3).1
      rcases List.mem_append.1 hy with hy | hy
      · obtain ⟨g, hg, hy⟩ := List.mem_flatMap.1 hy
        unfold iC_ at hy
        split at hy
        · simp at hy
        · rename_i hc
          simp only [not_or, Decidable.not_not] at hc
          have eg := (fs_ (hF g hg) hc.1).1
          rw [hc.2.1, hc.2.2] at eg
          split at hy
          · rename_i hl
            simp at hy; subst hy
            exact .r12 (by rw [← ef]; exact hf) (by rw [← eg]; exact hg) trivial hl
          · rename_i hl
            simp at hy; subst hy
            exact .r13 (r := f.r) (by rw [← ef]; exact hf) (by rw [← eg]; exact hg) trivial (Int.not_le.1 hl)
      · obtain ⟨x, hx, hy⟩ := List.mem_flatMap.1 hy
        unfold jT_ at hy
        split at hy
        · rename_i hc
          simp at hy; subst hy
          exact .r14 hx hc.1 (by rw [hc.2.1, ← ef]; exact hf) hc.2.2.1 hc.2.2.2
        · simp at hy
theorem nx_ : Cmpl p (· ∈ l) (fun _ => True) (· ∈ l) (· ∈ eH_ p l f) f := by
  have s1 : ∀ {a b y}, f = ax_ a b → (y ∈ subS p l f) → y ∈ eH_ p l f := fun e h => by unfold eH_; rw [if_pos (by rw [e]; rfl)]; exact h
  have s2 : ∀ {a r b y}, f = aN_ a r b → (y ∈ qQ_ p l f) → y ∈ eH_ p l f := fun e h => by unfold eH_; rw [if_neg (by rw [e]; simp [aN_]), if_pos (by rw [e]; rfl)]; exact h
  have s3 : ∀ {y}, f.kind = 3 → (y ∈ nB_ p l f) → y ∈ eH_ p l f := fun e h => by unfold eH_; rw [if_neg (by rw [e]; decide), if_neg (by rw [e]; decide)]; exact h
  refine ⟨?_, ?_, ?_, ?_, ?_, ?_, ?_, ?_, ?_, ?_, ?_, ?_, ?_, ?_, ?_⟩
  · intro z a hz hk e
    refine s1 e (List.mem_append_left _ (List.mem_flatMap.2 ⟨z, hz, ?_⟩))
    rw [e, if_pos ⟨hk, rfl⟩]; simp [ax_]
  · intro z a hz hk e h
    refine s1 e (List.mem_append_left _ (List.mem_flatMap.2 ⟨z, hz, ?_⟩))
    rw [e, if_neg (by rw [hk]; simp), if_pos ⟨hk, .inl ⟨rfl, h⟩⟩]; simp [ax_]
  · intro z a hz hk e h
    refine s1 e (List.mem_append_left _ (List.mem_flatMap.2 ⟨z, hz, ?_⟩))
    rw [e, if_neg (by rw [hk]; simp), if_pos ⟨hk, .inr ⟨rfl, h⟩⟩]; simp [ax_]
  · intro z a hz hk e
    refine s1 e (List.mem_append_left _ (List.mem_flatMap.2 ⟨z, hz, ?_⟩))
    rw [e, if_neg (by rw [hk]; simp), if_neg (by rw [hk]; simp), if_pos ⟨hk, rfl⟩]; simp [ax_]
  · intro z a b hz hk e
    refine s2 e (List.mem_append_right _ (List.mem_flatMap.2 ⟨z, hz, ?_⟩))
    rw [e, ja_, if_pos ⟨hk, rfl⟩]; simp [aN_]
  · intro z a b c hz hk e h
    refine s2 e (List.mem_append_right _ (List.mem_flatMap.2 ⟨z, hz, ?_⟩))
    rw [e, ja_, if_neg (by rw [hk]; simp), if_neg (by rw [hk]; simp), if_pos hk]
    refine List.mem_flatMap.2 ⟨_, h, ?_⟩
    rw [la_, if_neg (by simp [aN_])]
    refine List.mem_append_left _ ?_
    rw [if_pos ⟨rfl, rfl, rfl⟩]; simp [aN_]
  · intro z a b c hz hk e h
    refine s2 e (List.mem_append_right _ (List.mem_flatMap.2 ⟨z, hz, ?_⟩))
    rw [e, ja_, if_neg (by rw [hk]; simp), if_neg (by rw [hk]; simp), if_pos hk]
    refine List.mem_flatMap.2 ⟨_, h, ?_⟩
    rw [la_, if_neg (by simp [aN_])]
    refine List.mem_append_right _ ?_
    rw [if_pos ⟨rfl, rfl, rfl⟩]; simp [aN_]
  · intro z a b hz hk e h
    refine s2 e (List.mem_append_right _ (List.mem_flatMap.2 ⟨z, hz, ?_⟩))
    rw [e, ja_, if_neg (by rw [hk]; simp), if_pos ⟨hk, rfl, h⟩]; simp [aN_]
  · intro z a b hz hk e h
    refine s1 e (List.mem_append_right _ (List.mem_flatMap.2 ⟨_, h, ?_⟩))
    rw [oY_, if_neg (by rw [e]; simp [aN_, ax_])]
    refine List.mem_append_right _ (List.mem_flatMap.2 ⟨z, hz, ?_⟩)
    rw [e, if_pos ⟨hk, rfl, rfl⟩]; simp [aN_]
  · intro a r b e h
    refine s2 e (List.mem_append_left _ ?_)
    rw [e, if_pos (show ax_ (aN_ a r b).b [33] ∈ l from h)]; simp [aN_]
  · intro a r b e h
    refine s1 e (List.mem_append_right _ (List.mem_flatMap.2 ⟨_, h, ?_⟩))
    rw [oY_, if_neg (by rw [e]; simp [aN_, ax_])]
    refine List.mem_append_left _ ?_
    rw [e, if_pos (show (ax_ b [33]).b = [33] from rfl)]; simp [aN_]
  · intro z a hz hk e
    refine s1 e (List.mem_append_left _ (List.mem_flatMap.2 ⟨z, hz, ?_⟩))
    rw [e, if_neg (by rw [hk]; simp), if_neg (by rw [hk]; simp), if_neg (by rw [hk]; simp), if_pos ⟨hk, rfl⟩]; simp [ax_]
  · intro y h3 hy hk ha hr _ hl
    refine s3 h3 (List.mem_append_left _ (List.mem_flatMap.2 ⟨y, hy, ?_⟩))
    rw [iC_, if_neg (by simp [hk, ha, hr]), if_pos hl]; simp
  · intro y h3 hy hk ha hr _ hl
    refine s3 h3 (List.mem_append_left _ (List.mem_flatMap.2 ⟨y, hy, ?_⟩))
    rw [iC_, if_neg (by simp [hk, ha, hr]), if_neg (Int.not_le.2 hl)]; simp
  · intro z a lo hi hz hk e h1 h2
    refine s3 (by rw [e]; rfl) (List.mem_append_right _ (List.mem_flatMap.2 ⟨z, hz, ?_⟩))
    rw [e, jT_, if_pos ⟨hk, rfl, h1, h2⟩]; simp [aJ_]
theorem hz_ {α β : Type} {g : α → List β} {n : Nat} : ∀ (l : List α), (∀ x ∈ l, (g x).length ≤ n) → (l.flatMap g).length ≤ l.length * n
  | [], _ => by simp
  | x :: l, h => by
    have := hz_ l fun y hy => h y (by simp [hy])
    have hx := h x (by simp)
    simp only [List.flatMap_cons, List.length_append, List.length_cons, Nat.add_mul, Nat.one_mul]
    omega
theorem oZ_ (hp : p.length ≤ 100) (hl : l.length ≤ 65536) : (eH_ p l f).length ≤ 14000000 := by
  have a1 : (subA p l f).length ≤ p.length * 1 := hz_ p fun x _ => by (repeat' split) <;> simp
  have a2 : ∀ y, (sH_ p f y).length ≤ p.length * 1 := fun y => hz_ p fun x _ => by split <;> simp
  have a3 : (l.flatMap (oY_ p f)).length ≤ l.length * 101 := hz_ l fun y _ => by
    have := a2 y
    unfold oY_
    split
    · simp
    · rw [List.length_append]
      split <;> simp <;> omega
  have a4 : ∀ x y, (la_ x f y).length ≤ 2 := fun x y => by
    unfold la_
    repeat' split
    all_goals simp
  have a5 : (p.flatMap (ja_ l f)).length ≤ p.length * 131072 := hz_ p fun x _ => by
    unfold ja_
    split
    · simp
    · split
      · simp
      · split
        · have := hz_ l fun y _ => a4 x y
          omega
        · simp
  have a6 : (l.flatMap (iC_ f)).length ≤ l.length * 1 := hz_ l fun y _ => by
    unfold iC_
    repeat' split
    all_goals simp
  have a7 : (p.flatMap (jT_ f)).length ≤ p.length * 1 := hz_ p fun y _ => by
    unfold jT_
    split <;> simp
  unfold eH_
  split
  · rw [subS, List.length_append]; omega
  · split
    · rw [qQ_, List.length_append]
      have : (if ax_ f.b [33] ∈ l then [ax_ f.a [33]] else []).length ≤ 1 := by split <;> simp
      omega
    · rw [nB_, List.length_append]; omega
theorem ke_ (hF : ∀ y ∈ l, y.form) (y : Fc) : y ∈ gV_ p A ++ l.flatMap (fun f => eH_ p l f) ↔ eb_ p A (· ∈ l) y := by
  constructor
  · intro hy
    rcases List.mem_append.1 hy with hy | hy
    · rw [lj_] at hy; exact hd_ y hy
    · obtain ⟨f, hf, hy⟩ := List.mem_flatMap.1 hy
      exact mn_ hf hF y hy
  · intro hy
    refine nk_ (c := l) (good := fun y => y ∈ gV_ p A ++ l.flatMap (fun f => eH_ p l f)) (fun y hy => List.mem_append_left _ (by rw [lj_]; exact hy)) (fun f hf => ?_) hy
    exact nx_.up fun y hy => List.mem_append_right _ (List.mem_flatMap.2 ⟨f, hf, hy⟩)
end
def grow1 (p : List Pc) (A : List Str) (l : List Fc) : List Fc := (gV_ p A ++ l.flatMap (fun f => eH_ p l f)).foldl nQ_ l
def iQ_ (p : List Pc) (A : List Str) : Nat → List Fc
  | 0 => []
  | n + 1 => grow1 p A (iQ_ p A n)
theorem kq_ : ∀ (xs l : List Fc) (y : Fc), y ∈ xs.foldl nQ_ l ↔ y ∈ l ∨ y ∈ xs
  | [], l, y => by simp
  | x :: xs, l, y => by
    rw [List.foldl_cons, kq_ xs, re_]
    simp only [List.mem_cons]
    constructor
    · rintro ((h | h) | h)
      · exact .inl h
      · exact .inr (.inl h)
      · exact .inr (.inr h)
    · rintro (h | h | h)
      · exact .inl (.inl h)
      · exact .inl (.inr h)
      · exact .inr h
theorem kp_ : ∀ (xs : List Fc) {l : List Fc}, Srt l → Srt (xs.foldl nQ_ l)
  | [], _, h => h
  | x :: xs, _, h => kp_ xs (rd_ x h)
theorem ky_ (p : List Pc) (A : List Str) : ∀ n, Srt (iQ_ p A n)
  | 0 => List.Pairwise.nil
  | n + 1 => kp_ _ (ky_ p A n)
theorem iu_ {p : List Pc} {A : List Str} (hp : ∀ x ∈ p, x.vok) : ∀ n, ∀ y ∈ iQ_ p A n, Der p A y
  | 0, y, hy => by simp [iQ_] at hy
  | n + 1, y, hy => by
    have ih := iu_ (A := A) hp n
    rcases (kq_ _ _ y).1 hy with h | h
    · exact ih y h
    · exact Der.step (((ke_ (fun z hz => (ih z hz).form hp) y).1 h).mono (fun x hx => ⟨x, hx, x.frm, rfl⟩) (fun _ h => h) ih (fun _ _ h => h))
theorem nm_ {p : List Pc} {A : List Str} (hp : ∀ x ∈ p, x.vok) (n m : Nat) (hc : ((gV_ p A ++ (iQ_ p A n).flatMap (fun f => eH_ p (iQ_ p A n) f)).all fun y => decide (y ∈ iQ_ p A n)) = true) (hl : (iQ_ p A n).length ≤ m) : ev_ p A m (some (iQ_ p A n)) := by
  refine ⟨ky_ p A n, fun y => ⟨iu_ hp n y, fun h => h.least fun z hz => ?_⟩, hl⟩
  exact of_decide_eq_true (List.all_eq_true.1 hc z ((ke_ (fun w hw => (iu_ hp n w hw).form hp) z).2 hz))
theorem pZ_ {p : List Pc} {A : List Str} (hp : ∀ x ∈ p, x.vok) (n m : Nat) (hl : m < (iQ_ p A n).length) : ev_ p A m none := ⟨iQ_ p A n, (ky_ p A n).nodup, iu_ hp n, hl⟩
end Go.Vs
namespace Go.Sx
open Go Go.Vs
theorem jC_ {P : Program} {f : FuncId} {args : Array Value} {H : Hp} {Γ Γ0 : List Fct} {ι : Type} {ret : ι → Value} {H' : ι → Hp} (B : Hp) (hT : Tri P f args H Γ ret H' (fun _ => []))
    (hΓ : ∀ v : Vw, (∀ p ∈ B, v.im p.1 ∧ v.w.heap[p.1]? = some p.2) → aM_ Γ0 v → aM_ Γ v) : Tri P f args (B ++ H) Γ0 ret (fun x => B ++ H' x) (fun _ => []) := by
  refine ⟨hT.callable, fun v hs hv => ?_⟩
  have hnd := hs.nodup
  rw [List.map_append, List.nodup_append] at hnd
  have hlt : ∀ p ∈ B, p.1 < v.w.heap.size := fun p hp => (Array.getElem?_eq_some_iff.1 (hs.own p (List.mem_append_left _ hp)).1).1
  have h1 : (⟨fun b => v.im b ∨ b ∈ B.map Prod.fst, v.w, v.sl⟩ : Vw).sat H := by
    refine ⟨fun p hp => ⟨(hs.own p (List.mem_append_right _ hp)).1, fun hi => ?_⟩, hnd.2.1, fun b hb => ?_⟩
    · rcases hi with hi | hi
      · exact (hs.own p (List.mem_append_right _ hp)).2 hi
      · exact hnd.2.2 _ hi _ (List.mem_map_of_mem hp) rfl
    · rcases hb with hb | hb
      · exact hs.lt b hb
      · obtain ⟨p, hp, rfl⟩ := List.mem_map.1 hb
        exact hlt p hp
  have hle : v.le ⟨fun b => v.im b ∨ b ∈ B.map Prod.fst, v.w, v.sl⟩ := ⟨fun b h => .inl h, fun _ _ => rfl, rfl⟩
  have h2 := hΓ ⟨fun b => v.im b ∨ b ∈ B.map Prod.fst, v.w, v.sl⟩ (fun p hp => ⟨.inr (List.mem_map_of_mem hp), (hs.own p (List.mem_append_left _ hp)).1⟩) (bd_ hle hv)
  refine (hT.run _ h1 h2).mono ?_
  rintro e w' ⟨x, v', rfl, rfl, g1, _, g3⟩
  have hB : ∀ b, b ∈ B.map Prod.fst → v'.im b := fun b hb => g3.imUp b (.inr hb)
  refine ⟨x, ⟨fun b => v'.im b ∧ b ∉ B.map Prod.fst, v'.w, v'.sl⟩, rfl, rfl, ⟨fun p hp => ?_, ?_, fun b hb => g1.lt b hb.1⟩, trivial, ?_⟩
  · rcases List.mem_append.1 hp with hp | hp
    · refine ⟨?_, fun h => h.2 (List.mem_map_of_mem hp)⟩
      have := (g3.le h1).block p.1 (.inr (List.mem_map_of_mem hp))
      exact this.trans (hs.own p (List.mem_append_left _ hp)).1
    · exact ⟨(g1.own p hp).1, fun h => (g1.own p hp).2 h.1⟩
  · rw [List.map_append, List.nodup_append]
    refine ⟨hnd.1, g1.nodup, fun a ha b hb e => ?_⟩
    subst e
    obtain ⟨p, hp, rfl⟩ := List.mem_map.1 hb
    exact (g1.own p hp).2 (hB _ ha)
  · refine ⟨g3.os, g3.tape, g3.output, g3.size, fun b hb hn => g3.block b hb (fun hm => hn ?_), fun b hb => ⟨g3.imUp b (.inl hb), fun hm => ?_⟩, fun b hb => ?_, fun b hb => ?_, g3.sl, g3.dr⟩
    · rw [List.map_append]; exact List.mem_append_right _ hm
    · obtain ⟨p, hp, rfl⟩ := List.mem_map.1 hm
      exact (hs.own p (List.mem_append_left _ hp)).2 hb
    · rcases g3.imNew b hb.1 with (h | h) | h | h
      · exact .inl h
      · exact absurd h hb.2
      · exact .inr (.inl (by rw [List.map_append]; exact List.mem_append_right _ h))
      · exact .inr (.inr h)
    · rw [List.map_append] at hb ⊢
      rcases List.mem_append.1 hb with h | h
      · exact .inl (List.mem_append_left _ h)
      · exact (g3.hNew b h).imp (List.mem_append_right _) id
structure KeyT (P : Program) (kt : TypeId) {K : Type} [DecidableEq K] (kv : K → Value) : Prop where
  ok : ∀ k, hC_ P kt (kv k)
  nf : ∀ (k : K) (es : List MapEntry) (ks : List K), es.map (·.key) = ks.map kv → k ∉ ks → dT_ P kt (kv k) es none
  sf : ∀ (k : K) (es : List MapEntry) (ks : List K) (i : Nat) (e : MapEntry), es.map (·.key) = ks.map kv → ks.Nodup → ks[i]? = some k → es[i]? = some e → dT_ P kt (kv k) es (some (i, e.val))
  same : ∀ k, Instr.sameBits 10000 (kv k) (kv k) = true
section
variable {P : Program}
theorem kB_ (a b : List UInt8) : ((⟨a.toArray⟩ : ByteArray) == ⟨b.toArray⟩) = decide (a = b) := by
  show (a.toArray == b.toArray) = _
  rw [Bool.eq_iff_iff]
  simp
theorem qU_ {kt : TypeId} (hu : P.underlying kt = some .string) : KeyT P kt str where
  ok := fun k e w => by
    have key : ∀ m, (Instr.checkKey e (m + 1) kt (str k)).run P w = .ok () w := fun m => by simp [Instr.checkKey, run_underlying hu, str]
    exact key 9999
  nf := fun k es ks h hk => bI_ hu (by
    have : ∀ (ks : List Str) (es : List MapEntry) (i : Nat), es.map (·.key) = ks.map str → k ∉ ks → Instr.findNow .string (str k) es i = some none := by
      intro ks
      induction ks with
      | nil => intro es i h _; have : es = [] := by simpa using h
               subst this; rfl
      | cons q ks ih =>
        intro es i h hk
        cases es with
        | nil => simp at h
        | cons e es =>
          simp only [List.map_cons, List.cons.injEq] at h
          simp only [List.mem_cons, not_or] at hk
          have hs : Instr.sameNow .string (str k) e.key = some false := by
            rw [h.1]
            show some ((⟨k.toArray⟩ : ByteArray) == ⟨q.toArray⟩) = some false
            rw [kB_, decide_eq_false hk.1]
          simp only [Instr.findNow, hs]
          exact ih es (i + 1) h.2 hk.2
    exact this ks es 0 h hk)
  sf := fun k es ks i e h hn hi he => bI_ hu (by
    have : ∀ (ks : List Str) (es : List MapEntry) (j i : Nat), es.map (·.key) = ks.map str → ks.Nodup → ks[i]? = some k → es[i]? = some e → Instr.findNow .string (str k) es j = some (some (j + i, e.val)) := by
      intro ks
      induction ks with
      | nil => intro es j i _ _ h; simp at h
      | cons q ks ih =>
        intro es j i h hn hi he
        cases es with
        | nil => simp at h
        | cons x es =>
          simp only [List.map_cons, List.cons.injEq] at h
          rw [List.nodup_cons] at hn
          cases i with
          | zero =>
            simp only [List.getElem?_cons_zero, Option.some.injEq] at hi he
            subst hi; subst he
            have hs : Instr.sameNow .string (str q) x.key = some true := by
              rw [h.1]
              show some ((⟨q.toArray⟩ : ByteArray) == ⟨q.toArray⟩) = some true
              rw [kB_, decide_eq_true rfl]
            simp only [Instr.findNow, hs, Nat.add_zero]
          | succ i =>
            simp only [List.getElem?_cons_succ] at hi he
            have hne : k ≠ q := fun e => hn.1 (e ▸ List.mem_of_getElem? hi)
            have hs : Instr.sameNow .string (str k) x.key = some false := by
              rw [h.1]
              show some ((⟨k.toArray⟩ : ByteArray) == ⟨q.toArray⟩) = some false
              rw [kB_, decide_eq_false hne]
            simp only [Instr.findNow, hs]
            rw [ih es (j + 1) i h.2 hn.2 hi he, show j + 1 + i = j + (i + 1) by omega]
    have := this ks es 0 i h hn hi he
    rwa [Nat.zero_add] at this)
  same := fun k => by
    have key : ∀ m, Instr.sameBits m (str k) (str k) = true := fun m => by
      cases m <;> (show ((⟨k.toArray⟩ : ByteArray) == ⟨k.toArray⟩) = true; rw [kB_, decide_eq_true rfl])
    exact key 10000
theorem fB_ {K : Type} [DecidableEq K] {kt : TypeId} {fs : Array Field} {kv : K → Value} (hu : P.underlying kt = some (.struct fs)) (hok : ∀ k, hC_ P kt (kv k)) (heq : ∀ p q w, (Op.equal kt (kv p) (kv q)).run P w = .ok (decide (p = q)) w) (hsame : ∀ k, Instr.sameBits 10000 (kv k) (kv k) = true) : KeyT P kt kv where
  ok := hok
  nf := fun k es ks h hk => (gx_ hu heq k ks es h).1 hk
  sf := fun k es ks i e h hn hi he => by
    have key : ∀ (ks : List K) (es : List MapEntry) (j i : Nat), es.map (·.key) = ks.map kv → ks.Nodup → ks[i]? = some k → es[i]? = some e → ∀ w, (Instr.findAsking kt (kv k) es j).run P w = .ok (some (j + i, e.val)) w := by
      intro ks
      induction ks with
      | nil => intro es j i _ _ h; simp at h
      | cons q ks ih =>
        intro es j i h hn hi he w
        cases es with
        | nil => simp at h
        | cons x es =>
          simp only [List.map_cons, List.cons.injEq] at h
          rw [List.nodup_cons] at hn
          cases i with
          | zero =>
            simp only [List.getElem?_cons_zero, Option.some.injEq] at hi he
            subst hi; subst he
            simp only [Instr.findAsking, Sem.run_bind, h.1, heq, Result.andThen_ok, decide_true, if_true, Sem.run_pure, Nat.add_zero]
          | succ i =>
            simp only [List.getElem?_cons_succ] at hi he
            have hne : k ≠ q := fun e => hn.1 (e ▸ List.mem_of_getElem? hi)
            simp only [Instr.findAsking, Sem.run_bind, h.1, heq, Result.andThen_ok, hne, decide_false, Bool.false_eq_true, if_false]
            rw [ih es (j + 1) i h.2 hn.2 hi he w, show j + 1 + i = j + (i + 1) by omega]
    intro w
    have hnow : ∀ (x : MapEntry) (r : List MapEntry), Instr.findNow (.struct fs) (kv k) (x :: r) 0 = none := fun x r => by simp [Instr.findNow, Instr.sameNow]
    cases es with
    | nil => simp at he
    | cons x r =>
      simp only [Instr.findKey, Sem.run_bind, run_underlying hu, Result.andThen_ok, hnow]
      have := key ks (x :: r) 0 i h hn hi he w
      rwa [Nat.zero_add] at this
  same := hsame
end
theorem eJ_ (n : Nat) {k : IntKind} (i : Int) : Instr.sameBits n (.int k i) (.int k i) = true := by
  cases n <;> simp [Instr.sameBits]
theorem dr_ (n : Nat) (s : List UInt8) : Instr.sameBits n (str s) (str s) = true := by
  cases n <;> (show ((⟨s.toArray⟩ : ByteArray) == ⟨s.toArray⟩) = true; rw [kB_, decide_eq_true rfl])
theorem ia_ {n : Nat} {l : List Value} (h : ∀ v ∈ l, Instr.sameBits n v v = true) : Instr.sameBits (n + 1) (.agg l.toArray) (.agg l.toArray) = true := by
  simp only [Instr.sameBits, BEq.rfl, Bool.true_and, List.all_eq_true]
  intro p hp
  have : ∀ (l : List Value), (∀ v ∈ l, Instr.sameBits n v v = true) → ∀ p ∈ l.zip l, Instr.sameBits n p.1 p.2 = true := by
    intro l
    induction l with
    | nil => intro _ p hp; simp at hp
    | cons a l ih =>
      intro h p hp
      simp only [List.zip_cons_cons, List.mem_cons] at hp
      rcases hp with rfl | hp
      · exact h a (by simp)
      · exact ih (fun v hv => h v (by simp [hv])) p hp
  exact this l h p hp
structure Born (es : Array MapEntry) (c : Nat) : Prop where
  lt : ∀ x ∈ es.toList, x.born < c
  nd : (es.toList.map (·.born)).Nodup
theorem Born.nil (c : Nat) : Born #[] c := ⟨by simp, by simp⟩
theorem Born.push {es : Array MapEntry} {c : Nat} (h : Born es c) (key val : Value) : Born (es.push ⟨key, val, c⟩) (c + 1) := by
  refine ⟨fun x hx => ?_, ?_⟩
  · rw [Array.toList_push, List.mem_append] at hx
    rcases hx with hx | hx
    · exact Nat.lt_succ_of_lt (h.lt x hx)
    · rw [List.mem_singleton] at hx; rw [hx]; exact Nat.lt_succ_self _
  · rw [Array.toList_push, List.map_append, List.nodup_append]
    refine ⟨h.nd, by simp, fun a ha b hb e => ?_⟩
    obtain ⟨x, hx, rfl⟩ := List.mem_map.1 ha
    simp at hb
    have := h.lt x hx
    omega
theorem Born.modify {es : Array MapEntry} {c : Nat} (h : Born es c) (i : Nat) (f : MapEntry → MapEntry) (hf : ∀ e, (f e).born = e.born) : Born (es.modify i f) c := by
  have hb : (es.modify i f).toList.map (·.born) = es.toList.map (·.born) := by
    apply List.ext_getElem?
    intro j
    simp only [List.getElem?_map, Array.getElem?_toList, Array.getElem?_modify]
    split
    · cases es[j]? <;> simp [hf]
    · rfl
  refine ⟨fun x hx => ?_, by rw [hb]; exact h.nd⟩
  have : x.born ∈ (es.modify i f).toList.map (·.born) := List.mem_map_of_mem hx
  rw [hb] at this
  obtain ⟨y, hy, e⟩ := List.mem_map.1 this
  rw [← e]; exact h.lt y hy
theorem Born.find {es : Array MapEntry} {c i : Nat} {x : MapEntry} (h : Born es c) (hx : es[i]? = some x) : es.findIdx? (fun e => (e.born : Int) == (x.born : Int)) = some i := by
  rw [Array.findIdx?_eq_some_iff_getElem]
  obtain ⟨hi, rfl⟩ := Array.getElem?_eq_some_iff.1 hx
  refine ⟨hi, by simp, fun j hj => ?_⟩
  simp only [beq_eq_false_iff_ne, ne_eq, Bool.not_eq_true]
  intro e
  have hji : j < es.size := Nat.lt_trans hj hi
  have := h.nd
  rw [List.nodup_iff_pairwise_ne, List.pairwise_iff_getElem] at this
  have := this j i (by simpa using hji) (by simpa using hi) hj
  simp at this
  exact this (by exact_mod_cast e)
section
variable {K D : Type} [DecidableEq K] (kv : K → Value) (cells : D → List Value) (e : TypeId) (sz : Nat) (l : List (K × D))
def gf_ : List K → List MapEntry → Hp → Prop
  | [], [], H => H = []
  | k :: ks, x :: es, H => ∃ Hk Hr, H = Hk ++ Hr ∧ x.key = kv k ∧ bt_ e sz x.val (lat l k).length ((lat l k).flatMap cells) Hk ∧ gf_ ks es Hr
  | _, _, _ => False
def dm_ (mb : Nat) (H : Hp) : Prop := ∃ ks es c Hr, H = (mb, .map es c) :: Hr ∧ ks.Nodup ∧ (∀ x ∈ l, x.1 ∈ ks) ∧ gf_ kv cells e sz l ks es.toList Hr ∧ Born es c
end
section
variable {K D : Type} [DecidableEq K] {kv : K → Value} {cells : D → List Value} {e : TypeId} {sz : Nat} {l : List (K × D)}
theorem gf_.keys : ∀ {ks : List K} {es : List MapEntry} {H : Hp}, gf_ kv cells e sz l ks es H → es.map (·.key) = ks.map kv
  | [], [], _, _ => rfl
  | k :: ks, x :: es, _, h => by
    obtain ⟨Hk, Hr, _, h1, _, h2⟩ := h
    simp [h1, h2.keys]
  | [], _ :: _, _, h => h.elim
  | _ :: _, [], _, h => h.elim
theorem gf_.congr {l' : List (K × D)} : ∀ {ks : List K} {es : List MapEntry} {H : Hp}, (∀ k ∈ ks, lat l' k = lat l k) → gf_ kv cells e sz l ks es H → gf_ kv cells e sz l' ks es H
  | [], [], _, _, h => h
  | k :: ks, x :: es, _, hl, h => by
    obtain ⟨Hk, Hr, h0, h1, h2, h3⟩ := h
    exact ⟨Hk, Hr, h0, h1, by rw [hl k (by simp)]; exact h2, h3.congr fun q hq => hl q (by simp [hq])⟩
  | [], _ :: _, _, _, h => h.elim
  | _ :: _, [], _, _, h => h.elim
theorem gf_.get : ∀ {ks : List K} {es : List MapEntry} {H : Hp} {i : Nat} {k : K}, gf_ kv cells e sz l ks es H → ks.Nodup → ks[i]? = some k → ∃ x Hk Hr, es[i]? = some x ∧ H.Perm (Hk ++ Hr) ∧ x.key = kv k ∧ bt_ e sz x.val (lat l k).length ((lat l k).flatMap cells) Hk ∧
      ∀ (l' : List (K × D)) (y : MapEntry) (Hk' : Hp), y.key = kv k → (∀ q, q ≠ k → lat l' q = lat l q) → bt_ e sz y.val (lat l' k).length ((lat l' k).flatMap cells) Hk' → ∃ H', gf_ kv cells e sz l' ks (es.set i y) H' ∧ H'.Perm (Hk' ++ Hr)
  | [], _, _, _, _, _, _, h => by simp at h
  | _ :: _, [], _, _, _, h, _, _ => h.elim
  | q :: ks, x :: es, H, 0, k, h, hn, hi => by
    simp only [List.getElem?_cons_zero, Option.some.injEq] at hi
    subst hi
    rw [List.nodup_cons] at hn
    obtain ⟨Hk, Hr, h0, h1, h2, h3⟩ := h
    exact ⟨x, Hk, Hr, rfl, h0 ▸ .refl _, h1, h2, fun l' y Hk' g1 g2 g3 => ⟨Hk' ++ Hr, ⟨Hk', Hr, rfl, g1, g3, h3.congr fun z hz => g2 z (fun e => hn.1 (e ▸ hz))⟩, .refl _⟩⟩
  | q :: ks, x :: es, H, i + 1, k, h, hn, hi => by
    simp only [List.getElem?_cons_succ] at hi
    rw [List.nodup_cons] at hn
    obtain ⟨Hq, Ho, h0, h1, h2, h3⟩ := h
    obtain ⟨y, Hk, Hr, i1, i2, i3, i4, i5⟩ := h3.get hn.2 hi
    have hne : q ≠ k := fun e => hn.1 (e ▸ List.mem_of_getElem? hi)
    refine ⟨y, Hk, Hq ++ Hr, i1, ?_, i3, i4, fun l' z Hk' g1 g2 g3 => ?_⟩
    · rw [h0]
      refine (List.Perm.append_left Hq i2).trans ?_
      rw [← List.append_assoc, ← List.append_assoc]
      exact List.perm_append_comm.append_right _
    · obtain ⟨H', j1, j2⟩ := i5 l' z Hk' g1 g2 g3
      refine ⟨Hq ++ H', ⟨Hq, H', rfl, h1, by rw [g2 q hne]; exact h2, j1⟩, (List.Perm.append_left Hq j2).trans ?_⟩
      rw [← List.append_assoc, ← List.append_assoc]
      exact List.perm_append_comm.append_right _
theorem gf_.push : ∀ {ks : List K} {es : List MapEntry} {H : Hp} {k : K} {x : MapEntry} {Hk : Hp}, gf_ kv cells e sz l ks es H → x.key = kv k → bt_ e sz x.val (lat l k).length ((lat l k).flatMap cells) Hk → gf_ kv cells e sz l (ks ++ [k]) (es ++ [x]) (H ++ Hk)
  | [], [], _, k, x, Hk, h, h1, h2 => by subst h; exact ⟨Hk, [], by simp, h1, h2, rfl⟩
  | q :: ks, y :: es, _, k, x, Hk, h, h1, h2 => by
    obtain ⟨Hq, Hr, rfl, g1, g2, g3⟩ := h
    exact ⟨Hq, Hr ++ Hk, by simp, g1, g2, g3.push h1 h2⟩
  | [], _ :: _, _, _, _, _, h, _, _ => h.elim
  | _ :: _, [], _, _, _, _, h, _, _ => h.elim
theorem hp_ {k q : K} {d : D} (h : q ≠ k) : lat (l ++ [(k, d)]) q = lat l q := by
  rw [kl_]; simp [lat, Ne.symm h]
theorem cW_ {k : K} {d : D} : lat (l ++ [(k, d)]) k = lat l k ++ [d] := by
  rw [kl_]; simp [lat]
theorem dm_.open {P : Program} {kt : TypeId} (hK : KeyT P kt kv) {mb : Nat} {H : Hp} (h : dm_ kv cells e sz l mb H) (k : K) :
    ∃ es c sv Hk Hr, H.Perm ((mb, .map es c) :: (Hk ++ Hr)) ∧ bt_ e sz sv (lat l k).length ((lat l k).flatMap cells) Hk ∧
      ((dT_ P kt (kv k) es.toList none ∧ sv = .slice none 0 0 ∧ ∀ d sv' Hk', bt_ e sz sv' (lat (l ++ [(k, d)]) k).length ((lat (l ++ [(k, d)]) k).flatMap cells) Hk' → ∃ H', dm_ kv cells e sz (l ++ [(k, d)]) mb H' ∧ H'.Perm ((mb, .map (es.push ⟨kv k, sv', c⟩) (c + 1)) :: (Hk' ++ Hr))) ∨
       (∃ i x, dT_ P kt (kv k) es.toList (some (i, sv)) ∧ es[i]? = some x ∧ x.key = kv k ∧ x.val = sv ∧ ∀ d sv' Hk', bt_ e sz sv' (lat (l ++ [(k, d)]) k).length ((lat (l ++ [(k, d)]) k).flatMap cells) Hk' → ∃ H', dm_ kv cells e sz (l ++ [(k, d)]) mb H' ∧ H'.Perm ((mb, .map (es.modify i fun y => { y with key := kv k, val := sv' }) c) :: (Hk' ++ Hr)))) := by
  obtain ⟨ks, es, c, Ho, rfl, hn, hl, hm, hbn⟩ := h
  by_cases hk : k ∈ ks
  · obtain ⟨i, hi⟩ := List.getElem?_of_mem hk
    obtain ⟨x, Hk, Hr, g1, g2, g3, g4, g5⟩ := hm.get hn hi
    have hx : es[i]? = some x := by rw [← Array.getElem?_toList]; exact g1
    refine ⟨es, c, x.val, Hk, Hr, .cons _ g2, g4, .inr ⟨i, x, hK.sf k es.toList ks i x hm.keys hn hi g1, hx, g3, rfl, fun d sv' Hk' hs => ?_⟩⟩
    obtain ⟨H', j1, j2⟩ := g5 (l ++ [(k, d)]) { x with key := kv k, val := sv' } Hk' rfl (fun q hq => hp_ hq) hs
    refine ⟨(mb, .map (es.modify i fun y => { y with key := kv k, val := sv' }) c) :: H', ⟨ks, _, c, H', rfl, hn, fun y hy => ?_, ?_, hbn.modify i _ fun _ => rfl⟩, .cons _ j2⟩
    · rcases List.mem_append.1 hy with hy | hy
      · exact hl y hy
      · simp at hy; rw [hy]; exact hk
    · have e1 : (es.modify i fun y => { y with key := kv k, val := sv' }).toList = es.toList.set i { x with key := kv k, val := sv' } := by
        apply List.ext_getElem?
        intro j
        rw [Array.getElem?_toList, Array.getElem?_modify, List.getElem?_set, Array.getElem?_toList]
        by_cases hij : i = j
        · subst hij
          have hlt : i < es.toList.length := (List.getElem?_eq_some_iff.1 g1).1
          simp only [if_true, hx, Option.map_some, if_pos hlt]
        · simp [hij]
      rw [e1]; exact j1
  · have hlat : lat l k = [] := by
      apply List.eq_nil_iff_forall_not_mem.2
      intro d hd
      exact hk (hl _ (cY_.1 hd))
    refine ⟨es, c, .slice none 0 0, [], Ho, .refl _, by rw [hlat]; exact bt_.nil _ _, .inl ⟨hK.nf k es.toList ks hm.keys hk, rfl, fun d sv' Hk' hs => ?_⟩⟩
    refine ⟨(mb, .map (es.push ⟨kv k, sv', c⟩) (c + 1)) :: (Ho ++ Hk'), ⟨ks ++ [k], _, _, _, rfl, ?_, fun y hy => ?_, ?_, hbn.push _ _⟩, .cons _ List.perm_append_comm⟩
    · rw [List.nodup_append]; exact ⟨hn, by simp, fun a ha b hb e => by simp at hb; subst hb; subst e; exact hk ha⟩
    · rcases List.mem_append.1 hy with hy | hy
      · exact List.mem_append_left _ (hl y hy)
      · simp at hy; simp [hy]
    · rw [Array.toList_push]
      exact (hm.congr fun q hq => hp_ (fun (e : q = k) => hk (e ▸ hq))).push rfl hs
structure MOpn (kv : K → Value) (cells : D → List Value) (e : TypeId) (sz : Nat) (l : List (K × D)) (mb : Nat) (k : K) (es : Array MapEntry) (c i : Nat) (st : Int) (Hr : Hp) : Prop where
  find : es.findIdx? (fun x => (x.born : Int) == st) = some i
  close : ∀ d sv' Hk', bt_ e sz sv' (lat (l ++ [(k, d)]) k).length ((lat (l ++ [(k, d)]) k).flatMap cells) Hk' → ∃ H', dm_ kv cells e sz (l ++ [(k, d)]) mb H' ∧ H'.Perm ((mb, .map (es.modify i fun y => { y with val := sv' }) c) :: (Hk' ++ Hr))
theorem nH_ {es : Array MapEntry} {i : Nat} {x : MapEntry} {key : Value} (hx : es[i]? = some x) (hk : x.key = key) : (es.modify i fun y => { y with key := key }) = es := by
  apply Array.ext_getElem?
  intro j
  rw [Array.getElem?_modify]
  by_cases hij : i = j
  · subst hij; rw [if_pos rfl, hx]; simp only [Option.map_some]; rw [← hk]
  · rw [if_neg hij]
theorem dm_.entry {P : Program} {kt : TypeId} (hK : KeyT P kt kv) {mb : Nat} {H : Hp} (h : dm_ kv cells e sz l mb H) (k : K) :
    ∃ es c es' c' i st sv Hk Hr, H.Perm ((mb, .map es c) :: (Hk ++ Hr)) ∧ bt_ e sz sv (lat l k).length ((lat l k).flatMap cells) Hk ∧ MOpn kv cells e sz l mb k es' c' i st Hr ∧
      ((dT_ P kt (kv k) es.toList none ∧ sv = .slice none 0 0 ∧ es' = es.push ⟨kv k, .slice none 0 0, c⟩ ∧ c' = c + 1 ∧ st = (c : Int)) ∨ (∃ j x, dT_ P kt (kv k) es.toList (some (j, sv)) ∧ es[j]? = some x ∧ x.key = kv k ∧ es' = es ∧ c' = c ∧ st = (x.born : Int))) := by
  have h0 := h
  obtain ⟨ks, es, c, Ho, rfl, hn, hl, hm, hbn⟩ := h0
  by_cases hk : k ∈ ks
  · obtain ⟨i, hi⟩ := List.getElem?_of_mem hk
    obtain ⟨x, Hk, Hr, g1, g2, g3, g4, g5⟩ := hm.get hn hi
    have hx : es[i]? = some x := by rw [← Array.getElem?_toList]; exact g1
    refine ⟨es, c, es, c, i, x.born, x.val, Hk, Hr, .cons _ g2, g4, ⟨hbn.find hx, fun d sv' Hk' hs => ?_⟩, .inr ⟨i, x, hK.sf k es.toList ks i x hm.keys hn hi g1, hx, g3, rfl, rfl, rfl⟩⟩
    obtain ⟨H', j1, j2⟩ := g5 (l ++ [(k, d)]) { x with key := kv k, val := sv' } Hk' rfl (fun q hq => hp_ hq) hs
    refine ⟨(mb, .map (es.modify i fun y => { y with val := sv' }) c) :: H', ⟨ks, _, c, H', rfl, hn, fun y hy => ?_, ?_, hbn.modify i _ fun _ => rfl⟩, .cons _ j2⟩
    · rcases List.mem_append.1 hy with hy | hy
      · exact hl y hy
      · simp at hy; rw [hy]; exact hk
    · have e1 : (es.modify i fun y => { y with val := sv' }).toList = es.toList.set i { x with key := kv k, val := sv' } := by
        apply List.ext_getElem?
        intro j
        rw [Array.getElem?_toList, Array.getElem?_modify, List.getElem?_set, Array.getElem?_toList]
        by_cases hij : i = j
        · subst hij
          have hlt : i < es.toList.length := (List.getElem?_eq_some_iff.1 g1).1
          simp only [if_true, hx, Option.map_some, if_pos hlt]
          rw [← g3]
        · simp [hij]
      rw [e1]; exact j1
  · have hlat : lat l k = [] := by
      apply List.eq_nil_iff_forall_not_mem.2
      intro d hd
      exact hk (hl _ (cY_.1 hd))
    have hb2 := hbn.push (kv k) (.slice none 0 0)
    have hget : (es.push ⟨kv k, .slice none 0 0, c⟩)[es.size]? = some ⟨kv k, .slice none 0 0, c⟩ := by simp
    refine ⟨es, c, es.push ⟨kv k, .slice none 0 0, c⟩, c + 1, es.size, (c : Int), .slice none 0 0, [], Ho, .refl _, by rw [hlat]; exact bt_.nil _ _, ⟨hb2.find hget, fun d sv' Hk' hs => ?_⟩, .inl ⟨hK.nf k es.toList ks hm.keys hk, rfl, rfl, rfl, rfl⟩⟩
    have e2 : ((es.push ⟨kv k, .slice none 0 0, c⟩).modify es.size fun y => { y with val := sv' }) = es.push ⟨kv k, sv', c⟩ := by
      apply Array.ext_getElem?
      intro j
      rw [Array.getElem?_modify, Array.getElem?_push, Array.getElem?_push]
      by_cases hj : j = es.size
      · subst hj; simp
      · rw [if_neg (fun q => hj q.symm), if_neg hj, if_neg hj]
    rw [e2]
    refine ⟨(mb, .map (es.push ⟨kv k, sv', c⟩) (c + 1)) :: (Ho ++ Hk'), ⟨ks ++ [k], _, _, _, rfl, ?_, fun y hy => ?_, ?_, hbn.push _ _⟩, .cons _ List.perm_append_comm⟩
    · rw [List.nodup_append]; exact ⟨hn, by simp, fun a ha b hb e => by simp at hb; subst hb; subst e; exact hk ha⟩
    · rcases List.mem_append.1 hy with hy | hy
      · exact List.mem_append_left _ (hl y hy)
      · simp at hy; simp [hy]
    · rw [Array.toList_push]
      exact (hm.congr fun q hq => hp_ (fun (e : q = k) => hk (e ▸ hq))).push rfl hs
theorem dm_.nil (mb : Nat) (c : Nat) : dm_ kv cells e sz ([] : List (K × D)) mb [(mb, .map #[] c)] := ⟨[], #[], c, [], rfl, List.nodup_nil, by simp, rfl, Born.nil c⟩
def mlF (P : Program) (kt : TypeId) (kv : K → Value) (cells : D → List Value) (mb : Nat) (l : List (K × D)) (adr : K → Option Addr × Nat) : Fct where
  p := fun v => v.im mb ∧ ∃ es c, v.w.heap[mb]? = some (.map es c) ∧ ∀ k, ci_ v (adr k).1 ((lat l k).flatMap cells) ∧
    ((dT_ P kt (kv k) es.toList none ∧ Value.slice (adr k).1 (lat l k).length (adr k).2 = .slice none 0 0) ∨ ∃ i, dT_ P kt (kv k) es.toList (some (i, .slice (adr k).1 (lat l k).length (adr k).2)))
  mono := fun v v' h ⟨h1, es, c, h2, h3⟩ => ⟨h.imUp mb h1, es, c, by rw [h.block mb h1]; exact h2, fun k => ⟨(bb_ _ _).mono v v' h (h3 k).1, (h3 k).2⟩⟩
theorem bJ_ {P : Program} {kt : TypeId} {mb : Nat} {adr : K → Option Addr × Nat} {v : Vw} (h : (mlF P kt kv cells mb l adr).p v) (k : K) : ci_ v (adr k).1 ((lat l k).flatMap cells) := by
  obtain ⟨_, _, _, _, h⟩ := h
  exact (h k).1
theorem pb_ {sv : Value} {n : Nat} {xs : List Value} {Hr : Hp} {v : Vw} (h : bt_ e sz sv n xs Hr) (hv : ∀ p ∈ Hr, v.im p.1 ∧ v.w.heap[p.1]? = some p.2) : ∃ ad cap, sv = .slice ad n cap ∧ n ≤ cap ∧ cap ≤ maxLen ∧ (n ≠ 0 → ∃ b, ad = some ⟨b, 0, none⟩) ∧ ci_ v ad xs := by
  rcases h.2 with ⟨rfl, rfl, rfl⟩ | ⟨g, cap, cur, rfl, rfl, h3, h4, h5, h6⟩
  · have : xs = [] := List.eq_nil_of_length_eq_zero (by simpa using h.1)
    exact ⟨none, 0, rfl, Nat.le_refl _, by simp [maxLen], fun h => absurd rfl h, .inl this⟩
  · obtain ⟨g1, g2⟩ := hv _ (List.mem_singleton.2 rfl)
    refine ⟨some ⟨g, 0, none⟩, cap, rfl, h3, h4, fun _ => ⟨g, rfl⟩, .inr ⟨g, 0, cur, e, (0, 0), rfl, g1, g2, fun j x hj => ?_⟩⟩
    rw [← h6, List.getElem?_take] at hj
    split at hj
    · rw [Nat.zero_add, ← Array.getElem?_toList]; exact hj
    · cases hj
theorem dm_.lent {P : Program} {kt : TypeId} (hK : KeyT P kt kv) {mb : Nat} {H : Hp} (h : dm_ kv cells e sz l mb H) : ∃ adr, ∀ v : Vw, (∀ p ∈ H, v.im p.1 ∧ v.w.heap[p.1]? = some p.2) → (mlF P kt kv cells mb l adr).p v := by
  have h0 := h
  obtain ⟨ks, es, c, Ho, rfl, hn, hl, hm, _⟩ := h0
  have key : ∀ k, ∃ q : Option Addr × Nat, ∀ v : Vw, (∀ p ∈ (mb, Obj.map es c) :: Ho, v.im p.1 ∧ v.w.heap[p.1]? = some p.2) → ci_ v q.1 ((lat l k).flatMap cells) ∧ ((dT_ P kt (kv k) es.toList none ∧ Value.slice q.1 (lat l k).length q.2 = .slice none 0 0) ∨ ∃ i, dT_ P kt (kv k) es.toList (some (i, .slice q.1 (lat l k).length q.2))) := fun k => by
    by_cases hk : k ∈ ks
    · obtain ⟨i, hi⟩ := List.getElem?_of_mem hk
      obtain ⟨x, Hk, Hr, g1, g2, g3, g4, _⟩ := hm.get hn hi
      have hf := hK.sf k es.toList ks i x hm.keys hn hi g1
      have hsl : ∃ ad cap, x.val = .slice ad (lat l k).length cap := by
        rcases g4.2 with ⟨q1, q2, _⟩ | ⟨g, cap, cur, q1, _⟩
        · exact ⟨none, 0, by rw [q1, q2]⟩
        · exact ⟨_, cap, q1⟩
      obtain ⟨ad, cap, hx⟩ := hsl
      refine ⟨(ad, cap), fun v hv => ⟨?_, .inr ⟨i, by rw [← hx]; exact hf⟩⟩⟩
      obtain ⟨ad', cap', e1, _, _, _, hr⟩ := pb_ g4 fun p hp => hv p (List.mem_cons_of_mem _ (g2.mem_iff.2 (List.mem_append_left _ hp)))
      rw [hx] at e1
      simp only [Value.slice.injEq] at e1
      rw [e1.1]; exact hr
    · have hlat : lat l k = [] := by
        apply List.eq_nil_iff_forall_not_mem.2
        intro d hd
        exact hk (hl _ (cY_.1 hd))
      exact ⟨(none, 0), fun v hv => ⟨.inl (by rw [hlat]; rfl), .inl ⟨hK.nf k es.toList ks hm.keys hk, by rw [hlat]; rfl⟩⟩⟩
  refine ⟨fun k => (key k).choose, fun v hv => ?_⟩
  obtain ⟨g1, g2⟩ := hv _ List.mem_cons_self
  exact ⟨g1, es, c, g2, fun k => (key k).choose_spec v hv⟩
end
section
variable {P : Program} {K : Type} [DecidableEq K] {kv : K → Value} {kt : TypeId}
structure SetE (kv : K → Value) (es : Array MapEntry) (q : List K) : Prop where
  keys : es.toList.map (·.key) = q.map kv
  vals : ∀ x ∈ es.toList, x.val = .bool true
  nd : q.Nodup
theorem SetE.nil : SetE kv #[] ([] : List K) := ⟨rfl, by simp, List.nodup_nil⟩
theorem SetE.size {es : Array MapEntry} {q : List K} (h : SetE kv es q) : es.size = q.length := by
  have := congrArg List.length h.keys
  simpa using this
theorem SetE.yes (hK : KeyT P kt kv) {es : Array MapEntry} {q : List K} (h : SetE kv es q) {k : K} (hk : k ∈ q) : ∃ i x, q[i]? = some k ∧ es[i]? = some x ∧ x.key = kv k ∧ x.val = .bool true ∧ dT_ P kt (kv k) es.toList (some (i, .bool true)) := by
  obtain ⟨i, hi⟩ := List.getElem?_of_mem hk
  have hlt : i < es.toList.length := by
    have := (List.getElem?_eq_some_iff.1 hi).1
    have e := congrArg List.length h.keys
    simp at e this ⊢; omega
  have hx := List.getElem?_eq_getElem hlt
  have hv := h.vals _ (List.getElem_mem hlt)
  have hkey : es.toList[i].key = kv k := by
    have := congrArg (fun l => l[i]?) h.keys
    simp only [List.getElem?_map, hx, hi, Option.map_some, Option.some.injEq] at this
    exact this
  refine ⟨i, es.toList[i], hi, by rw [← Array.getElem?_toList]; exact hx, hkey, hv, ?_⟩
  have := hK.sf k es.toList q i _ h.keys h.nd hi hx
  rwa [hv] at this
theorem SetE.no (hK : KeyT P kt kv) {es : Array MapEntry} {q : List K} (h : SetE kv es q) {k : K} (hk : k ∉ q) : dT_ P kt (kv k) es.toList none := hK.nf k es.toList q h.keys hk
theorem SetE.push {es : Array MapEntry} {q : List K} (h : SetE kv es q) {k : K} (hk : k ∉ q) (c : Nat) : SetE kv (es.push ⟨kv k, .bool true, c⟩) (q ++ [k]) := by
  refine ⟨by simp [h.keys], fun x hx => ?_, ?_⟩
  · rw [Array.toList_push, List.mem_append] at hx
    rcases hx with hx | hx
    · exact h.vals x hx
    · simp at hx; rw [hx]
  · rw [List.nodup_append]; exact ⟨h.nd, by simp, fun a ha b hb e => by simp at hb; subst hb; subst e; exact hk ha⟩
end
section ops
variable {P : Program} {N : Nat} {v0 : Vw} {H0 : Hp} {R : Exit → Act → World → Prop} {Kk : List Kt} {fr : Fr} {H : Hp} {Γ : List Fct}
variable {ops : Array Oper} {lo : List Oper} {d : Nat} {ty : TypeId} {ps : String} {af : Array Edge}
variable {K D : Type} [DecidableEq K] {kv : K → Value} {cells : D → List Value}
theorem ck_ {t kt et : TypeId} {x y : Operand} {mb : Nat} {l : List (K × D)} {adr : K → Option Addr × Nat} {k : K} (hK : KeyT P kt kv) (hu : ∀ w, (underlying t).run P w = .ok (.map kt et) w) (hz : ∀ w, (zeroValue et).run P w = .ok (.slice none 0 0) w) (hx : Fr.ev fr x = some (.map (some mb))) (hy : Fr.ev fr y = some (kv k))
    (hm : ∀ v, v.sat H → aM_ Γ v → (mlF P kt kv cells mb l adr).p v) : Yld P N fr H Γ (.lookup t x y false) ty (.slice (adr k).1 (lat l k).length (adr k).2) :=
  fun a v h1 h2 h4 _ _ _ => by
    obtain ⟨_, es, c, g1, g2⟩ := hm v h2 h4
    have hb := MapKept.run_getObj_map (P := P) g1
    rcases (g2 k).2 with ⟨q5, q6⟩ | ⟨i, q5⟩
    · rw [q6]; simp [execOp, h1.ev hx, h1.ev hy, Instr.lookup, hu, hb, hK.ok _ _ _, q5 _, hz]
    · simp [execOp, h1.ev hx, h1.ev hy, Instr.lookup, hu, hb, hK.ok _ _ _, q5 _]
theorem cP_ {t kt et : TypeId} {x y : Operand} {mb c : Nat} {es : Array MapEntry} {q : List K} {k : K} (hK : KeyT P kt kv) (hu : ∀ w, (underlying t).run P w = .ok (.map kt et) w) (hz : ∀ w, (zeroValue et).run P w = .ok (.bool false) w) (hx : Fr.ev fr x = some (.map (some mb))) (hy : Fr.ev fr y = some (kv k))
    (hq : SetE kv es q) (hm : ∀ v, v.sat H → aM_ Γ v → v.w.heap[mb]? = some (.map es c)) : Yld P N fr H Γ (.lookup t x y false) ty (.bool (decide (k ∈ q))) := by
  by_cases hk : k ∈ q
  · obtain ⟨i, _, _, _, _, _, hf⟩ := hq.yes hK hk
    rw [decide_eq_true hk]
    exact gj_ hu hx hy hm (hK.ok k) hf
  · rw [decide_eq_false hk]
    exact gi_ hu hz hx hy hm (hK.ok k) (hq.no hK hk)
theorem qg_ {t kt et : TypeId} {x : Operand} {mb c : Nat} {es : Array MapEntry} (hu : ∀ w, (underlying t).run P w = .ok (.map kt et) w) (hx : Fr.ev fr x = some (.map (some mb))) (hm : ∀ v, v.sat H → aM_ Γ v → v.w.heap[mb]? = some (.map es c)) :
    Yld P N fr H Γ (.call ⟨.builtin .len, #[x], #[t]⟩) ty (.int .i64 (es.size : Int)) :=
  fun a v h1 h2 h4 _ _ _ => by
    have hb := MapKept.run_getObj_map (P := P) (hm v h2 h4)
    simp [execOp, resolve, invoke, builtin, Builtin.len_, h1.ev hx, hu, hb, goInt]
theorem hH_ {o : Op} {t kt et : TypeId} {x y z : Operand} {b c i : Nat} (n : Nat) {es : Array MapEntry} {e : MapEntry} {k : K} {u u' : Value} (hK : KeyT P kt kv) (ho : o = .insert t x y z ∨ o = .mapUpdate t x y z) (hu : ∀ w, (underlying t).run P w = .ok (.map kt et) w)
    (hx : Fr.ev fr x = some (.map (some b))) (hy : Fr.ev fr y = some (kv k)) (hz : Fr.ev fr z = some u) (hi : H[n]? = some (b, .map es c)) (hf : dT_ P kt (kv k) es.toList (some (i, u'))) (he : es[i]? = some e) (hek : e.key = kv k)
    (hkk : Ops P R N v0 H0 ops lo Kk fr (H.set n (b, .map (es.modify i fun y => { y with key := kv k, val := u }) c)) Γ) : Ops P R N v0 H0 ops (⟨none, o, ty, ps, af, none⟩ :: lo) Kk fr H Γ :=
  du_ rfl fun a v h1 h2 h3 h4 => by
    have hb := (h2.own _ (List.mem_of_getElem? hi)).1
    have hg := MapKept.run_getObj_map (P := P) hb
    have hs := MapKept.run_setObj_map (P := P) (.map (es.modify i fun y => { y with key := kv k, val := u }) c) hb
    have he : (execOp a.eval ⟨none, o, ty, ps, af, none⟩).run P v.w = .ok .skip { v.w with heap := v.w.heap.setIfInBounds b (.map (es.modify i fun y => { y with key := kv k, val := u }) c) } := by
      rcases ho with rfl | rfl <;> simp [execOp, h1.ev hx, h1.ev hy, h1.ev hz, Instr.mapUpdate, hu, hg, hK.ok _ _ _, hf _, hs, Instr.keyThatStays, he, hek, hK.same]
    unfold Oper.wp
    rw [he]
    have hh := MapKept.heap_set (o' := .map (es.modify i fun y => { y with key := kv k, val := u }) c) hb
    obtain ⟨g1, g2⟩ := fy_ (w' := { v.w with heap := v.w.heap.setIfInBounds b (.map (es.modify i fun y => { y with key := kv k, val := u }) c) }) h2 hi rfl rfl rfl (Nat.le_refl _) (by simp) hh.1 (fun k hk => hh.2 k hk)
    exact hkk a _ h1 g1 (h3.trans g2) (bd_ (g2.le h2) h4)
theorem iZ_ {es : Array MapEntry} {i : Nat} {e : MapEntry} {key val : Value} (he : es[i]? = some e) (hk : e.key = key) (hv : e.val = val) : (es.modify i fun y => { y with key := key, val := val }) = es := by
  apply Array.ext_getElem?
  intro j
  rw [Array.getElem?_modify]
  by_cases hij : i = j
  · subst hij; rw [if_pos rfl, he]; simp only [Option.map_some]; rw [← hk, ← hv]
  · rw [if_neg hij]
theorem fQ_ {o : Op} {t kt et : TypeId} {x y z : Operand} {b c : Nat} (n : Nat) {es : Array MapEntry} {q : List K} {k : K} (hK : KeyT P kt kv) (ho : o = .insert t x y z ∨ o = .mapUpdate t x y z) (hu : ∀ w, (underlying t).run P w = .ok (.map kt et) w)
    (hx : Fr.ev fr x = some (.map (some b))) (hy : Fr.ev fr y = some (kv k)) (hz : Fr.ev fr z = some (.bool true)) (hi : H[n]? = some (b, .map es c)) (hq : SetE kv es q)
    (hkk : ∀ es' c', SetE kv es' (if k ∈ q then q else q ++ [k]) → Ops P R N v0 H0 ops lo Kk fr (H.set n (b, .map es' c')) Γ) : Ops P R N v0 H0 ops (⟨none, o, ty, ps, af, none⟩ :: lo) Kk fr H Γ := by
  by_cases hk : k ∈ q
  · obtain ⟨i, e, g1, g2, g3, g4, g5⟩ := hq.yes hK hk
    refine hH_ n hK ho hu hx hy hz hi g5 g2 g3 ?_
    rw [iZ_ g2 g3 g4]
    exact hkk es c (by rw [if_pos hk]; exact hq)
  · exact bL_ n ho hu hx hy hz hi (hK.ok k) (hq.no hK hk) (hkk _ _ (by rw [if_neg hk]; exact hq.push hk c))
theorem dv_ {t kt et : TypeId} {x y : Operand} {mb : Nat} {e : TypeId} {sz : Nat} {l : List (K × D)} {k : K} {Hm F : Hp} (hK : KeyT P kt kv) (hm : dm_ kv cells e sz l mb Hm) (hu : ∀ w, (underlying t).run P w = .ok (.map kt et) w) (hz : ∀ w, (zeroValue et).run P w = .ok (.slice none 0 0) w)
    (hx : Fr.ev fr x = some (.map (some mb))) (hy : Fr.ev fr y = some (kv k)) (hH : H.Perm (Hm ++ F)) (hN : Nat.blt d N = true)
    (hk : ∀ es c i st sv Hk Hr, MOpn kv cells e sz l mb k es c i st Hr → bt_ e sz sv (lat l k).length ((lat l k).flatMap cells) Hk → Ops P R N v0 H0 ops lo Kk ((d, .tuple #[sv, .int .i64 st]) :: fr) ((mb, .map es c) :: (Hk ++ (Hr ++ F))) Γ) :
    Ops P R N v0 H0 ops (⟨some d, .mapEntry t x y, ty, ps, af, none⟩ :: lo) Kk fr H Γ := by
  obtain ⟨es, c, es', c', i, st, sv, Hk, Hr, p1, p2, p3, p4⟩ := hm.entry hK k
  refine du_ rfl fun a v h1 h2 h3 h4 => ?_
  have hp : H.Perm ((mb, .map es c) :: (Hk ++ (Hr ++ F))) := hH.trans (by
    have := p1.append_right F
    simpa [List.append_assoc] using this)
  have h2' := h2.perm hp
  have hb := (h2'.own _ List.mem_cons_self).1
  have hg := MapKept.run_getObj_map (P := P) hb
  have he : (execOp a.eval ⟨some d, .mapEntry t x y, ty, ps, af, none⟩).run P v.w = .ok (.value (.tuple #[sv, .int .i64 st])) { v.w with heap := v.w.heap.setIfInBounds mb (.map es' c') } := by
    rcases p4 with ⟨q1, rfl, rfl, rfl, rfl⟩ | ⟨j, z, q1, q2, q3, rfl, rfl, rfl⟩
    · have hs := MapKept.run_setObj_map (P := P) (.map (es.push ⟨kv k, .slice none 0 0, c⟩) (c + 1)) hb
      simp [execOp, h1.ev hx, h1.ev hy, Instr.mapEntry, hu, hg, hK.ok _ _ _, q1 _, hz, hs, goInt]
    · have hs := MapKept.run_setObj_map (P := P) (.map es' c') hb
      simp [execOp, h1.ev hx, h1.ev hy, Instr.mapEntry, hu, hg, hK.ok _ _ _, q1 _, Instr.keyThatStays, q2, q3, hK.same, nH_ q2 q3, hs, goInt]
  unfold Oper.wp
  rw [he]
  have hh := MapKept.heap_set (o' := .map es' c') hb
  obtain ⟨g1, g2⟩ := fy_ (i := 0) (o' := .map es' c') (w' := { v.w with heap := v.w.heap.setIfInBounds mb (.map es' c') }) h2' rfl rfl rfl rfl (Nat.le_refl _) (by simp) hh.1 (fun k hk => hh.2 k hk)
  simp only [List.set_cons_zero] at g1 g2
  exact hk es' c' i st sv Hk Hr p3 p2 _ _ (h1.put hN) g1 (h3.trans (g2.permL hp.symm)) (bd_ (g2.le h2') h4)
theorem bW_ {t : TypeId} {x y z : Operand} {mb c i : Nat} {e : TypeId} {sz : Nat} {l : List (K × D)} {k : K} {dd : D} {es : Array MapEntry} {st : Int} {sv : Value} {Hk Hr F : Hp} (ho : MOpn kv cells e sz l mb k es c i st Hr) (hr : bt_ e sz sv (lat (l ++ [(k, dd)]) k).length ((lat (l ++ [(k, dd)]) k).flatMap cells) Hk)
    (hx : Fr.ev fr x = some (.map (some mb))) (hy : Fr.ev fr y = some (.int .i64 st)) (hz : Fr.ev fr z = some sv) (hH : H.Perm ((mb, .map es c) :: (Hk ++ (Hr ++ F))))
    (hk : ∀ H', dm_ kv cells e sz (l ++ [(k, dd)]) mb H' → Ops P R N v0 H0 ops lo Kk fr (H' ++ F) Γ) : Ops P R N v0 H0 ops (⟨none, .entryStore t x y z, ty, ps, af, none⟩ :: lo) Kk fr H Γ := by
  obtain ⟨H', q1, q2⟩ := ho.close dd sv Hk hr
  refine du_ rfl fun a v h1 h2 h3 h4 => ?_
  have h2' := h2.perm hH
  have hb := (h2'.own _ List.mem_cons_self).1
  have hg := MapKept.run_getObj_map (P := P) hb
  have hs := MapKept.run_setObj_map (P := P) (.map (es.modify i fun y => { y with val := sv }) c) hb
  have he : (execOp a.eval ⟨none, .entryStore t x y z, ty, ps, af, none⟩).run P v.w = .ok .skip { v.w with heap := v.w.heap.setIfInBounds mb (.map (es.modify i fun y => { y with val := sv }) c) } := by
    have hf := ho.find
    simp [execOp, h1.ev hx, h1.ev hy, h1.ev hz, Instr.entryStore, hg, hs, asInt, asIntOf, hf]
  unfold Oper.wp
  rw [he]
  have hh := MapKept.heap_set (o' := .map (es.modify i fun y => { y with val := sv }) c) hb
  obtain ⟨g1, g2⟩ := fy_ (i := 0) (o' := .map (es.modify i fun y => { y with val := sv }) c) (w' := { v.w with heap := v.w.heap.setIfInBounds mb (.map (es.modify i fun y => { y with val := sv }) c) }) h2' rfl rfl rfl rfl (Nat.le_refl _) (by simp) hh.1 (fun k hk => hh.2 k hk)
  simp only [List.set_cons_zero] at g1 g2
  have pp : ((mb, Obj.map (es.modify i fun y => { y with val := sv }) c) :: (Hk ++ (Hr ++ F))).Perm (H' ++ F) := by
    have := (q2.append_right F).symm
    simpa [List.append_assoc] using this
  exact hk H' q1 _ _ h1 (g1.perm pp) (h3.trans ((g2.permL hH.symm).subR fun b hb => ((pp.map Prod.fst).mem_iff).2 hb)) (bd_ (g2.le h2') h4)
def MOp (P : Program) (kt : TypeId) (kv : K → Value) (cells : D → List Value) (e : TypeId) (sz : Nat) (l : List (K × D)) (mb : Nat) (k : K) (es : Array MapEntry) (c : Nat) (sv : Value) (Hr : Hp) : Prop :=
  (dT_ P kt (kv k) es.toList none ∧ sv = .slice none 0 0 ∧ ∀ d sv' Hk', bt_ e sz sv' (lat (l ++ [(k, d)]) k).length ((lat (l ++ [(k, d)]) k).flatMap cells) Hk' → ∃ H', dm_ kv cells e sz (l ++ [(k, d)]) mb H' ∧ H'.Perm ((mb, .map (es.push ⟨kv k, sv', c⟩) (c + 1)) :: (Hk' ++ Hr))) ∨
  (∃ i x, dT_ P kt (kv k) es.toList (some (i, sv)) ∧ es[i]? = some x ∧ x.key = kv k ∧ x.val = sv ∧ ∀ d sv' Hk', bt_ e sz sv' (lat (l ++ [(k, d)]) k).length ((lat (l ++ [(k, d)]) k).flatMap cells) Hk' → ∃ H', dm_ kv cells e sz (l ++ [(k, d)]) mb H' ∧ H'.Perm ((mb, .map (es.modify i fun y => { y with key := kv k, val := sv' }) c) :: (Hk' ++ Hr)))
theorem oy_ {k0 : Act → World → Prop} {kt : TypeId} {mb : Nat} {e : TypeId} {sz : Nat} {l : List (K × D)} {Hm F : Hp} (hK : KeyT P kt kv) (k : K) (hm : dm_ kv cells e sz l mb Hm) (hH : H.Perm (Hm ++ F))
    (h : ∀ es c sv Hk Hr, bt_ e sz sv (lat l k).length ((lat l k).flatMap cells) Hk → MOp P kt kv cells e sz l mb k es c sv Hr → Ok N v0 H0 k0 fr ((mb, .map es c) :: (Hk ++ (Hr ++ F))) Γ) : Ok N v0 H0 k0 fr H Γ := by
  obtain ⟨es, c, sv, Hk, Hr, p1, p2, p3⟩ := hm.open hK k
  refine ap_ (hH.trans (by
    have := p1.append_right F
    simpa [List.append_assoc] using this)) (h es c sv Hk Hr p2 p3)
theorem hh_ {t kt et : TypeId} {x y : Operand} {mb c : Nat} {e : TypeId} {sz : Nat} {l : List (K × D)} {k : K} {es : Array MapEntry} {sv : Value} {Hr : Hp} (hK : KeyT P kt kv) (ho : MOp P kt kv cells e sz l mb k es c sv Hr) (hu : ∀ w, (underlying t).run P w = .ok (.map kt et) w) (hz : ∀ w, (zeroValue et).run P w = .ok (.slice none 0 0) w)
    (hx : Fr.ev fr x = some (.map (some mb))) (hy : Fr.ev fr y = some (kv k)) (i : Nat) (hi : H[i]? = some (mb, .map es c)) : Yld P N fr H Γ (.lookup t x y false) ty sv := by
  have hm : ∀ v, v.sat H → aM_ Γ v → v.w.heap[mb]? = some (.map es c) := fun v h _ => (h.own _ (List.mem_of_getElem? hi)).1
  rcases ho with ⟨h1, rfl, _⟩ | ⟨i, z, h1, _⟩
  · exact gi_ hu hz hx hy hm (hK.ok k) h1
  · exact gj_ hu hx hy hm (hK.ok k) h1
theorem gr_ {o : Op} {t kt et : TypeId} {x y z : Operand} {mb c : Nat} {e : TypeId} {sz : Nat} {l : List (K × D)} {k : K} {dd : D} {es : Array MapEntry} {sv sv' : Value} {Hk Hr F : Hp} (hK : KeyT P kt kv) (ho : MOp P kt kv cells e sz l mb k es c sv Hr) (hr : bt_ e sz sv' (lat (l ++ [(k, dd)]) k).length ((lat (l ++ [(k, dd)]) k).flatMap cells) Hk)
    (hop : o = .insert t x y z ∨ o = .mapUpdate t x y z) (hu : ∀ w, (underlying t).run P w = .ok (.map kt et) w) (hx : Fr.ev fr x = some (.map (some mb))) (hy : Fr.ev fr y = some (kv k)) (hz : Fr.ev fr z = some sv') (hH : H.Perm ((mb, .map es c) :: (Hk ++ (Hr ++ F))))
    (hk : ∀ H', dm_ kv cells e sz (l ++ [(k, dd)]) mb H' → Ops P R N v0 H0 ops lo Kk fr (H' ++ F) Γ) : Ops P R N v0 H0 ops (⟨none, o, ty, ps, af, none⟩ :: lo) Kk fr H Γ := by
  refine ap_ hH ?_
  rcases ho with ⟨h1, _, h2⟩ | ⟨i, q, h1, h3, h4, _, h2⟩
  · obtain ⟨H', q1, q2⟩ := h2 dd sv' Hk hr
    refine bL_ 0 hop hu hx hy hz rfl (hK.ok k) h1 ?_
    simp only [List.set_cons_zero]
    exact ap_ (by have := (q2.append_right F).symm; simpa [List.append_assoc] using this) (hk H' q1)
  · obtain ⟨H', q1, q2⟩ := h2 dd sv' Hk hr
    refine hH_ 0 hK hop hu hx hy hz rfl h1 h3 h4 ?_
    simp only [List.set_cons_zero]
    exact ap_ (by have := (q2.append_right F).symm; simpa [List.append_assoc] using this) (hk H' q1)
theorem cV_ {b : Nat × Obj} {O Q F : Hp} (h : H.Perm ((b :: (O ++ Q)) ++ F)) : H.Perm (b :: (O ++ (Q ++ F))) := by simpa [List.append_assoc] using h
theorem cn_ {b : Nat × Obj} {F : Hp} (h : H.Perm ([b] ++ F)) : H.Perm (b :: F) := h
theorem aY_ {b : Nat × Obj} {F F' : Hp} (h : H.Perm ([b] ++ F)) (h2 : F.Perm F') : H.Perm (b :: F') := List.Perm.trans h (h2.cons b)
theorem pf_ {fn : Func} {Rr : Ending → World → Prop} {c : Code} (h : Run P (bodyPost P fn Rr) N v0 H0 c [] fr H Γ) : Run P (bodyPost P fn Rr) N v0 H0 (.scope c) [] fr H Γ :=
  fun a v h1 h2 h3 h4 => wp_scope_straight (wp_mono (h a v h1 h2 h3 h4) fun e a w hq => by cases e <;> exact hq)
theorem ph_ {c : Nat} (h : Fin P R N v0 H0 Kk fr H Γ) : Run P R N v0 H0 (.label c) Kk fr H Γ :=
  fun a v h1 h2 h3 h4 => wp_label (h a v h1 h2 h3 h4)
end ops
end Go.Sx
