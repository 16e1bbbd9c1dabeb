/-
  Part of the proof of the law IncrementAxioms over this seat: the small logic, the data, the contracts of functions (no condition).
-/
import Derived.Test.YtpdbbglpbngeiaaGreatDoorQIncrementAxioms2
import Derived.Lib.SlicesCompact
import Derived.Sort.EncStr
import Derived.Test.YtpdbbglpbngeiaaGreatDoorQIncrementAxioms3
import Derived.Test.YtpdbbglpbngeiaaGreatDoorQIncrementAxioms1
import Derived.Test.YtpdbbglpbngeiaaGreatDoorQIncrementAxioms4
import Derived.Scope
import Derived.Lib.AppendZeros
import Derived.Maps.RangeRun
set_option linter.unusedVariables false
set_option linter.unusedSimpArgs false
set_option linter.unusedSectionVars false
namespace Go.Sx
open Go
section
variable {P : Program} {N : Nat} {fr : Fr} {H : Hp} {Γ : List Fct}
theorem nn_ : ∀ (x y : List UInt8), Op.bytesLess x y = decide (x < y)
  | [], [] => by simp [Op.bytesLess]
  | _ :: _, [] => by simp [Op.bytesLess]
  | [], _ :: _ => by simp [Op.bytesLess]
  | a :: x, b :: y => by
    rw [Op.bytesLess, nn_ x y]
    simp only [List.cons_lt_cons_iff]
    by_cases h1 : a < b <;> by_cases h2 : a = b <;> by_cases h3 : x < y <;> simp [h1, h2, h3]
theorem jg_ {t t' ty : TypeId} {x y : Operand} {m n : List UInt8} (hx : Fr.ev fr x = some (str m)) (hy : Fr.ev fr y = some (str n)) : Yld P N fr H Γ (.binOp .lss t x y t') ty (.bool (decide (m < n))) :=
  fun a v h1 _ _ _ _ _ => by rw [← nn_]; simp [execOp, h1.ev hx, h1.ev hy, str, eqGuard, binOp, Op.stringOp]
theorem jl_ {f : FuncId} {args : Array Value} {r : Value} {g : Nat} {cur : Array Value} {T : TypeId} {d : Array (List UInt8)} (hc : fZ_ P f)
    (h : ∀ v : Vw, v.sat [(g, .cells cur T (0, 0))] → Calls P f args v.w fun e w' => e = .returned r ∧ ∃ n os, w' = Sort.grow (Sort.putRow Go.Proofs.encStr (Sort.ahead v.w n) g 0 d) os) :
    Tri P f args [(g, .cells cur T (0, 0))] Γ (fun _ : Unit => r) (fun _ => [(g, .cells (Sort.putCells Go.Proofs.encStr 0 d cur) T (0, 0))]) (fun _ => []) :=
  ⟨hc, fun v h1 _ => (h v h1).mono fun e w' ⟨he, n, os, hw⟩ => by
    have hg := (h1.own _ List.mem_cons_self)
    have hlt : g < v.w.heap.size := (Array.getElem?_eq_some_iff.1 hg.1).1
    have hb : ∀ b, b < v.w.heap.size → w'.heap[b]? = if b = g then some (.cells (Sort.putCells Go.Proofs.encStr 0 d cur) T (0, 0)) else v.w.heap[b]? := fun b hb => by
      rw [hw]
      simp only [Sort.grow, Sort.putRow, Sort.mapBlock, Sort.ahead]
      rw [Array.getElem?_append_left (by simpa using hb), Array.getElem?_modify]
      by_cases e : b = g
      · subst e
        simp only [if_true, hg.1, Option.map_some, Sort.onCells]
      · rw [if_neg (fun q => e q.symm), if_neg e]
    have hsz : v.w.heap.size ≤ w'.heap.size := by rw [hw]; simp [Sort.grow, Sort.putRow, Sort.mapBlock, Sort.ahead]
    refine ⟨(), ⟨v.im, w', v.sl⟩, he, rfl, ⟨fun p hp => ?_, by simp, fun b hbb => Nat.lt_of_lt_of_le (h1.lt b hbb) hsz⟩, trivial, ⟨by rw [hw]; rfl, by rw [hw]; rfl, by rw [hw]; rfl, hsz, fun b hbb hn => ?_, fun _ h => h, fun _ h => .inl h, fun b hm => .inl (by simpa using hm), rfl, .inr (by rw [hw]; exact Nat.le_add_right _ _)⟩⟩
    · simp only [List.mem_singleton] at hp
      subst hp
      exact ⟨by show w'.heap[g]? = _; rw [hb g hlt, if_pos rfl], hg.2⟩
    · have hn' : b ≠ g := by simpa using hn
      show w'.heap[b]? = _
      rw [hb b hbb, if_neg hn']⟩
theorem mx_ {cur : Array Value} {d : List (List UInt8)} (hs : d.length ≤ cur.size) : (Sort.putCells Go.Proofs.encStr 0 d.toArray cur).toList.take d.length = d.flatMap bg_ := by
  rw [jo_]
  apply List.ext_getElem?
  intro j
  rw [List.getElem?_take, List.getElem?_map]
  split
  · rename_i hj
    simp only [Sort.putCells, Array.getElem?_toList, Array.getElem?_mapIdx]
    rw [Array.getElem?_eq_getElem (by omega)]
    simp only [Option.map_some, Nat.zero_le, true_and, Nat.zero_add, List.size_toArray, hj, if_true, Nat.sub_zero]
    rw [List.getElem?_eq_getElem hj]
    simp only [Option.map_some]
    rw [getElem!_pos d.toArray j (by simpa using hj)]
    rfl
  · rename_i hj
    rw [List.getElem?_eq_none (by omega)]; rfl
theorem my_ {cur : Array Value} {d : Array (List UInt8)} : (Sort.putCells Go.Proofs.encStr 0 d cur).size = cur.size := by simp [Sort.putCells]
end
end Go.Sx
namespace Go.Vs
open Go Go.Sx
def ofs (a : Int) : Nat → List Pc → List Int
  | _, [] => []
  | i, p :: r => if p.frm = a then (i : Int) :: ofs a (i + 1) r else ofs a (i + 1) r
theorem jJ_ (a : Int) : ∀ (xs ys : List Pc) (i : Nat), ofs a i (xs ++ ys) = ofs a i xs ++ ofs a (i + xs.length) ys
  | [], ys, i => by simp [ofs]
  | x :: xs, ys, i => by
    simp only [List.cons_append, ofs, List.length_cons]
    rw [jJ_ a xs ys (i + 1), show i + 1 + xs.length = i + (xs.length + 1) by omega]
    split <;> simp
theorem mM_ (a : Int) {l : List Pc} {p : Pc} {i : Nat} (h : l[i]? = some p) : ofs a 0 (l.take (i + 1)) = ofs a 0 (l.take i) ++ if p.frm = a then [(i : Int)] else [] := by
  have hi := (List.getElem?_eq_some_iff.1 h).1
  rw [List.take_add_one, h, Option.toList_some, jJ_, List.length_take, Nat.min_eq_left (by omega), Nat.zero_add]
  simp only [ofs]
theorem ln_ (a : Int) : ∀ (l : List Pc) (i : Nat), (ofs a i l).length ≤ l.length
  | [], _ => by simp [ofs]
  | p :: r, i => by
    have := ln_ a r (i + 1)
    simp only [ofs]
    split <;> simp <;> omega
def kq_ (p : Pc) : List Str := [p.a, p.b, p.c].filter fun s => !(s == [])
def cB_ (l : List Pc) : List Str := l.flatMap kq_
def dW_ (l : List Pc) : List Str := Lib.compact ((cB_ l).mergeSort fun x y => decide (x ≤ y))
theorem hC_ : ∀ l : List Pc, (cB_ l).length ≤ 3 * l.length
  | [] => by simp [cB_]
  | p :: r => by
    have h1 := hC_ r
    have h2 : (kq_ p).length ≤ 3 := by unfold kq_; exact List.length_filter_le _ _
    simp only [cB_, List.flatMap_cons, List.length_append, List.length_cons] at h1 ⊢
    omega
theorem qh_ (l : List Str) : (l.mergeSort fun x y => decide (x ≤ y)).Pairwise fun x y => x ≤ y := by
  have h := List.pairwise_mergeSort (le := fun x y : Str => decide (x ≤ y)) (fun a b c h1 h2 => by simp only [decide_eq_true_eq] at *; exact List.le_trans h1 h2) (fun a b => by
    simp only [Bool.or_eq_true, decide_eq_true_eq]; exact List.le_total a b) l
  exact h.imp (fun h => of_decide_eq_true h)
theorem gU_ {zs : List Str} : Lib.compact zs = ((List.range zs.length).filter fun j => decide (j = 0 ∨ zs[j]! ≠ zs[j - 1]!)).map fun j => zs[j]! := by
  unfold Lib.compact Lib.compactUpTo Lib.keeps
  have e : ∀ j, zs.toArray[j]! = zs[j]! := fun j => by
    by_cases h : j < zs.length
    · rw [getElem!_pos zs.toArray j (by simpa using h), getElem!_pos zs j h]; simp
    · rw [getElem!_neg zs.toArray j (by simpa using h), getElem!_neg zs j h]
  rw [List.map_congr_left fun j _ => e j]
  congr 2
  funext j
  rw [e, e]
theorem gT_ (zs : List Str) : (Lib.compact zs).length ≤ zs.length := by
  rw [gU_, List.length_map]
  have := List.length_filter_le (fun j => decide (j = 0 ∨ zs[j]! ≠ zs[j - 1]!)) (List.range zs.length)
  simpa using this
theorem iO_ {zs : List Str} (x : Str) : x ∈ Lib.compact zs ↔ x ∈ zs := by
  rw [gU_, List.mem_map]
  constructor
  · rintro ⟨j, hj, rfl⟩
    have hl := List.mem_range.1 (List.mem_filter.1 hj).1
    rw [getElem!_pos zs j hl]
    exact List.getElem_mem hl
  · intro hx
    obtain ⟨j, hj, e⟩ := List.mem_iff_getElem.1 hx
    clear hx
    induction j with
    | zero => exact ⟨0, List.mem_filter.2 ⟨List.mem_range.2 hj, by simp⟩, by rw [getElem!_pos zs 0 hj]; exact e⟩
    | succ j ih =>
      by_cases h : zs[j + 1]! = zs[j]!
      · have hj' : j < zs.length := by omega
        refine ih hj' ?_
        rw [getElem!_pos zs (j + 1) hj, getElem!_pos zs j hj'] at h
        rw [← h]; exact e
      · exact ⟨j + 1, List.mem_filter.2 ⟨List.mem_range.2 hj, decide_eq_true (.inr h)⟩, by rw [getElem!_pos zs (j + 1) hj]; exact e⟩
theorem oa_ {zs : List Str} (hs : zs.Pairwise fun x y => x ≤ y) : (Lib.compact zs).Pairwise fun x y => x < y := by
  rw [gU_, List.pairwise_map]
  have hr : (List.range zs.length).Pairwise (· < ·) := List.pairwise_lt_range
  have hf := hr.filter (fun j => decide (j = 0 ∨ zs[j]! ≠ zs[j - 1]!))
  refine List.Pairwise.imp_of_mem ?_ hf
  intro j k hj hk hlt
  have hkl := List.mem_range.1 (List.mem_filter.1 hk).1
  have hkk := (List.mem_filter.1 hk).2
  simp only [decide_eq_true_eq] at hkk
  have hne : zs[k]! ≠ zs[k - 1]! := by
    rcases hkk with h | h
    · omega
    · exact h
  have hle : ∀ a b, a ≤ b → b < zs.length → zs[a]! ≤ zs[b]! := by
    intro a b hab hb
    rcases Nat.lt_or_eq_of_le hab with h | h
    · rw [getElem!_pos zs a (by omega), getElem!_pos zs b hb]
      exact List.pairwise_iff_getElem.1 hs a b (by omega) hb h
    · subst h; exact List.le_refl _
  have h1 := hle j (k - 1) (by omega) (by omega)
  have h2 := hle (k - 1) k (by omega) hkl
  have h3 : zs[k - 1]! < zs[k]! := by
    apply Decidable.byContradiction
    intro h
    exact hne (List.le_antisymm (List.not_lt.1 h) h2)
  exact List.lt_of_le_of_lt h1 h3
theorem gu_ (l : List Pc) (x : Str) : x ∈ dW_ l ↔ x ∈ cB_ l := by
  unfold dW_
  rw [iO_, List.mem_mergeSort]
theorem eG_ (l : List Pc) : (dW_ l).length ≤ 3 * l.length := by
  have h1 := gT_ ((cB_ l).mergeSort fun x y => decide (x ≤ y))
  rw [List.length_mergeSort] at h1
  have h2 := hC_ l
  unfold dW_
  omega
end Go.Vs
namespace Go.Proofs.YtpdbbglpbngeiaaGreatDoor
open Go Go.Sx Go.Proofs
attribute [local irreducible] Code.wp wpList wpAnyH
open Go.Vs
theorem eltI : Elt Tryz.prog 58 3 1 8 := ki_ Tryz.underlying58 (z := .int .i64 0) (by kernel_rfl) rfl (by decide)
theorem eltS : Elt Tryz.prog 25 9 1 16 := ki_ gE_ (z := .string ⟨#[]⟩) (by kernel_rfl) rfl (by decide)
theorem of_c (l : List Pc) (ad : Option Addr) (cap : Nat) (a : Int) (hl : l.length ≤ 100000000000) : Tri Tryz.prog 50 #[.slice ad (List.length l) cap, .int .i64 a] [] [aS_ ad (List.flatMap Pc.cells l)] (fun y : {y : Option Addr × Nat // (ofs a 0 l).length ≤ y.2 ∧ y.2 ≤ maxLen} => .slice y.1.1 (ofs a 0 l).length y.1.2) (fun _ => []) (fun y => [aS_ y.1.1 ((ofs a 0 l).flatMap iz_)]) := by
 refine M_ Tryz.func50 rfl rfl Tryz.ntmps50 rfl fun v0 => ?_
 refine f_ (c_ (a_ (g_ rfl) rfl (d_ (b_ rfl (f_ (f_ (c_ (a_ (h_ rfl) rfl (a_ (ah_ G_ rfl) rfl ?_)))))))))
 refine a_ (h_ rfl) rfl (d_ (b_ rfl (S_ (bS_ [(1, .int .i64 a), (4, .slice none 0 0), (7, .slice ad (List.length l) cap), (8, .int .i64 (List.length l : Int)), (9, .int .i64 ((0 : Nat) : Int))] ⟨rfl, rfl, rfl, rfl, rfl, trivial⟩ ?_))))
 refine bY_ (ι := {y : Nat × Value × Hp // y.1 ≤ l.length ∧ bk_ 3 1 y.2.1 (ofs a 0 (l.take y.1)).length ((ofs a 0 (l.take y.1)).flatMap iz_) y.2.2}) (fun y => [(1, .int .i64 a), (4, y.1.2.1), (7, .slice ad (List.length l) cap), (8, .int .i64 (List.length l : Int)), (9, .int .i64 (y.1.1 : Int))]) (fun y => y.1.2.2) (fun _ => _) (fun y => l.length - y.1.1) ⟨(0, .slice none 0 0, []), by simp, bk_.nil _ _⟩ ?_
 rintro ⟨⟨i, sv, Hr⟩, hi, hrow⟩
 dsimp only at hi hrow
 dsimp only
 have hol := ln_ a (l.take i) 0
 rw [List.length_take] at hol
 refine bS_ [(1, .int .i64 a), (4, sv), (7, .slice ad (List.length l) cap), (8, .int .i64 (List.length l : Int)), (9, .int .i64 (i : Int))] ⟨rfl, rfl, rfl, rfl, rfl, trivial⟩ ?_
 refine f_ (c_ (x_ (az_ rfl rfl) rfl fun r1 hr1 => ?_))
 refine d_ (b_ rfl (f_ ?_))
 cases r1
 ·
  replace hr1 := of_decide_eq_false hr1
  refine p_ rfl (aD_ rfl (b_ rfl (f_ (c_ (a_ (h_ rfl) rfl (a_ (g_ rfl) rfl (d_ (b_ rfl (B_ ?_)))))))))
  have et : l.take i = l := List.take_of_length_le (by omega)
  rw [et] at hrow
  refine gk_ hrow ba_ fun ad2 cp2 hsv hc1 hc2 => ?_
  exact as_ Tryz.results50 ⟨(ad2, cp2), hc1, hc2⟩ (gn_ rfl hsv) W_ (fun v _ h => ⟨h.1, trivial⟩)
 ·
  replace hr1 := of_decide_eq_true hr1
  have hlx1 : i < List.length l := by omega
  obtain ⟨x1, hx1⟩ : ∃ e0, l[i]? = some e0 := ⟨_, List.getElem?_eq_getElem hlx1⟩
  have hmx1 : x1 ∈ l := List.mem_of_getElem? hx1
  refine n_ rfl (A_ (b_ rfl (f_ (S_ (f_ (c_ (a_ (h_ rfl) rfl (a_ (ak_ G_ U_ rfl rfl (fun v _ h => aL_ (n := 10) Pc.cells_len (by decide) (by exact h.1) hx1) (by omega) (by first | omega | (simp; done))) rfl (a_ (aE_ (ad := ad) (us := Pc.cells x1) bh_ U_ rfl (fun v _ h => by exact h.1) (Pc.cells_len _) (an_ Pc.cells_len hx1)) rfl ?_)))))))))
  refine al_ ap_ rfl fun b1 => ?_
  refine a_ (g_ rfl) rfl (Z_ 0 U_ rfl rfl rfl rfl rfl rfl (d_ (b_ rfl (f_ (c_ (a_ (j_ F_ rfl rfl rfl H_) rfl (a_ (q_ 0 J_ rfl rfl rfl) rfl (a_ (h_ rfl) rfl (x_ (aA_ rfl rfl) rfl fun r2 hr2 => ?_)))))))))
  refine d_ (b_ rfl ?_)
  cases r2
  ·
   replace hr2 := ne_of_beq_false hr2
   refine p_ rfl (A_ (b_ rfl (c_ (a_ (V_ rfl rfl rfl (aq_ (by omega) (by omega))) rfl (a_ (h_ rfl) rfl (d_ (r_ rfl ?_)))))))
   have hst := mM_ a hx1
   rw [if_neg (by assumption)] at hst
   exact ao_ ⟨(i + 1, sv, Hr), hlx1, by dsimp only; rw [hst, List.append_nil]; exact hrow⟩ (by dsimp only; omega) ⟨rfl, rfl, rfl, rfl, rfl, trivial⟩ (e_ ba_) (fun _ _ h => h)
  ·
   replace hr2 := eq_of_beq hr2
   refine n_ rfl (c_ (a_ (h_ rfl) rfl (a_ (h_ rfl) rfl (aK_ ct_ H_ io_ rfl rfl rfl rfl rfl rfl fun b2 => ?_))))
   refine bd_ (news := [.int .i64 (i : Int)]) eltI hrow rfl rfl (e_ (e_ ba_)) rfl (cQ_ 0 rfl) (hf_ rfl) (by simp only [maxLen]; omega) (by omega) rfl fun sv2 Hr2 hrow2 => ?_
   refine at_ (@List.perm_append_comm _ _ [_, _]) (a_ (g_ rfl) rfl (d_ (b_ rfl (c_ (a_ (V_ rfl rfl rfl (aq_ (by omega) (by omega))) rfl (a_ (h_ rfl) rfl (d_ (r_ rfl ?_))))))))
   have hst := mM_ a hx1
   rw [if_pos (by assumption)] at hst
   exact ao_ ⟨(i + 1, sv2, Hr2), hlx1, by dsimp only; rw [hst, List.length_append, List.flatMap_append]; exact hrow2⟩ (by dsimp only; omega) ⟨rfl, rfl, rfl, rfl, rfl, trivial⟩ (e_ (e_ ba_)) (fun _ _ h => h)
theorem kT_ {g n cap : Nat} {cur : Array Value} {xs : List Str} {v : Vw} (hs : v.sat [(g, .cells cur 9 (0, 0))]) (ht : cur.toList.take (xs.length * 1) = xs.flatMap bg_) : Sort.Holds encStr v.w g 0 xs.toArray := by
  intro j hj
  have hb := (hs.own _ List.mem_cons_self).1
  simp only [List.size_toArray] at hj
  have hc : cur[j]? = some (str xs[j]) := kC_ ht j xs[j] (List.getElem?_eq_getElem hj)
  refine ⟨?_, ?_⟩
  · simp only [World.cell?, Nat.zero_add, hb, Option.isSome_none, Bool.false_eq_true, if_false]
    rw [hc, getElem!_pos xs.toArray j (by simpa using hj)]
    rfl
  · simp [World.frozen?, hb]
theorem or_ {sv : Value} {xs : List Str} {Hr : Hp} (h : bk_ 9 1 sv xs.length (xs.flatMap bg_) Hr) (hl : xs.length ≤ 1000000000000) :
    Tri Tryz.prog 87 #[sv] Hr [] (fun _ : {y : Hp // bk_ 9 1 sv xs.length ((xs.mergeSort fun x y => decide (x ≤ y)).flatMap bg_) y} => .tuple #[]) (fun y => y.1) (fun _ => []) := by
  rcases h.2 with ⟨rfl, h2, rfl⟩ | ⟨g, cap, cur, rfl, rfl, h3, h4, h5, h6⟩
  · obtain rfl : xs = [] := List.eq_nil_of_length_eq_zero h2
    have T := dA_ (P := Tryz.prog) (H := []) (Γ := []) (callable Tryz.func87 rfl rfl) (fun v _ _ => (Tryz.slices_Sort_string_none none 0 v.w).mono (by rintro e w' ⟨rfl, rfl⟩; exact ⟨rfl, ⟨rfl, rfl, rfl, Nat.le_refl _, fun _ _ => rfl⟩, .inr (Nat.le_refl _)⟩))
    exact ⟨T.callable, fun v a b => (T.run v a b).mono (by rintro e w' ⟨x, v', e1, e2, e3, e4, e5⟩; exact ⟨⟨[], by simpa using bk_.nil _ _⟩, v', e1, e2, e3, e4, e5⟩)⟩
  · have T := jl_ (P := Tryz.prog) (Γ := []) (d := (xs.mergeSort fun x y => decide (x ≤ y)).toArray) (callable Tryz.func87 rfl rfl) (fun v hs => Tryz.slices_Sort_string g 0 cap xs v.w (kT_ (n := 0) (cap := 0) hs h6) (Array.getElem?_eq_some_iff.1 (hs.own _ List.mem_cons_self).1).1 (by omega))
    have hsz : (xs.mergeSort fun x y => decide (x ≤ y)).length = xs.length := List.length_mergeSort _
    refine ⟨T.callable, fun v a b => (T.run v a b).mono ?_⟩
    rintro e w' ⟨x, v', e1, e2, e3, e4, e5⟩
    refine ⟨⟨_, by rw [ea_ bg_ 1 aX_, hsz], .inr ⟨g, cap, _, rfl, rfl, h3, h4, by rw [my_]; exact h5, ?_⟩⟩, v', e1, e2, e3, e4, e5⟩
    have := mx_ (cur := cur) (d := xs.mergeSort fun x y => decide (x ≤ y)) (by rw [hsz, h5]; omega)
    rw [hsz] at this
    rw [Nat.mul_one]; exact this
theorem kj_ {sv : Value} {xs : List Str} {Hr : Hp} (h : bk_ 9 1 sv xs.length (xs.flatMap bg_) Hr) (hl : xs.length ≤ 1000000000000) :
    Tri Tryz.prog 88 #[sv] Hr [] (fun y : {y : Value × Hp // bk_ 9 1 y.1 (Lib.compact xs).length ((Lib.compact xs).flatMap bg_) y.2} => y.1.1) (fun y => y.1.2) (fun _ => []) := by
  rcases h.2 with ⟨rfl, h2, rfl⟩ | ⟨g, cap, cur, rfl, rfl, h3, h4, h5, h6⟩
  · obtain rfl : xs = [] := List.eq_nil_of_length_eq_zero h2
    have T := dA_ (P := Tryz.prog) (H := []) (Γ := []) (callable Tryz.func88 rfl rfl) (fun v _ _ => (Tryz.slices_Compact_string_empty none 0 v.w).mono (by rintro e w' ⟨rfl, rfl⟩; exact ⟨rfl, ⟨rfl, rfl, rfl, Nat.le_refl _, fun _ _ => rfl⟩, .inr (Nat.le_refl _)⟩))
    exact ⟨T.callable, fun v a b => (T.run v a b).mono (by rintro e w' ⟨x, v', e1, e2, e3, e4, e5⟩; exact ⟨⟨(.slice none 0 0, []), by simpa [Lib.compact, Lib.compactUpTo] using bk_.nil _ _⟩, v', e1, e2, e3, e4, e5⟩)⟩
  · have hcl := gT_ xs
    have T := jl_ (P := Tryz.prog) (Γ := []) (r := .slice (some ⟨g, 0, none⟩) (Lib.compact xs).length cap) (d := (Lib.compact xs ++ List.replicate (xs.length - (Lib.compact xs).length) []).toArray) (callable Tryz.func88 rfl rfl) (fun v hs => (Tryz.slices_Compact_string g 0 cap xs v.w (kT_ (n := 0) (cap := 0) hs h6) (by omega) h3).mono (by
      rintro e w' ⟨rfl, q, rfl⟩
      exact ⟨rfl, q, #[], by rw [Sort.grow_empty]⟩))
    refine ⟨T.callable, fun v a b => (T.run v a b).mono ?_⟩
    rintro e w' ⟨x, v', e1, e2, e3, e4, e5⟩
    refine ⟨⟨(.slice (some ⟨g, 0, none⟩) (Lib.compact xs).length cap, _), by rw [ea_ bg_ 1 aX_], .inr ⟨g, cap, _, rfl, rfl, by omega, h4, by rw [my_]; exact h5, ?_⟩⟩, v', e1, e2, e3, e4, e5⟩
    have hd : (Lib.compact xs ++ List.replicate (xs.length - (Lib.compact xs).length) ([] : Str)).length = xs.length := by simp; omega
    have := mx_ (cur := cur) (d := Lib.compact xs ++ List.replicate (xs.length - (Lib.compact xs).length) []) (by rw [hd, h5]; omega)
    rw [hd] at this
    have h7 := congrArg (List.take (Lib.compact xs).length) this
    rw [List.take_take, Nat.min_eq_left hcl, List.flatMap_append, List.take_append_of_le_length (by rw [ea_ bg_ 1 aX_]; omega), List.take_of_length_le (l := (Lib.compact xs).flatMap bg_) (by rw [ea_ bg_ 1 aX_]; omega)] at h7
    rw [Nat.mul_one]; exact h7
theorem su_ (l : List Pc) (ad : Option Addr) (cap : Nat) (hl : l.length ≤ 100000000000) : Tri Tryz.prog 98 #[.slice ad (List.length l) cap] [] [aS_ ad (List.flatMap Pc.cells l)] (fun y : {y : Option Addr × Nat // (dW_ l).length ≤ y.2 ∧ y.2 ≤ maxLen} => .slice y.1.1 (dW_ l).length y.1.2) (fun _ => []) (fun y => [aS_ y.1.1 ((dW_ l).flatMap bg_)]) := by
 refine M_ Tryz.func98 rfl rfl Tryz.ntmps98 rfl fun v0 => ?_
 refine f_ (c_ (a_ (g_ rfl) rfl (d_ (b_ rfl (f_ (f_ (c_ (a_ (h_ rfl) rfl (a_ (ah_ G_ rfl) rfl ?_)))))))))
 refine a_ (h_ rfl) rfl (d_ (b_ rfl (S_ (bS_ [(2, .slice none 0 0), (7, .slice ad (List.length l) cap), (8, .int .i64 (List.length l : Int)), (9, .int .i64 ((0 : Nat) : Int))] ⟨rfl, rfl, rfl, rfl, trivial⟩ ?_))))
 refine bY_ (ι := {y : Nat × Value × Hp // y.1 ≤ l.length ∧ bk_ 9 1 y.2.1 (cB_ (l.take y.1)).length ((cB_ (l.take y.1)).flatMap bg_) y.2.2}) (fun y => [(2, y.1.2.1), (7, .slice ad (List.length l) cap), (8, .int .i64 (List.length l : Int)), (9, .int .i64 (y.1.1 : Int))]) (fun y => y.1.2.2) (fun _ => _) (fun y => l.length - y.1.1) ⟨(0, .slice none 0 0, []), by simp, bk_.nil _ _⟩ ?_
 rintro ⟨⟨i, sv, Hr⟩, hi, hrow⟩
 dsimp only at hi hrow
 dsimp only
 have hol := hC_ (l.take i)
 rw [List.length_take] at hol
 refine bS_ [(2, sv), (7, .slice ad (List.length l) cap), (8, .int .i64 (List.length l : Int)), (9, .int .i64 (i : Int))] ⟨rfl, rfl, rfl, rfl, trivial⟩ ?_
 refine f_ (c_ (x_ (az_ rfl rfl) rfl fun r1 hr1 => ?_))
 refine d_ (b_ rfl (f_ ?_))
 cases r1
 ·
  replace hr1 := of_decide_eq_false hr1
  refine p_ rfl (aD_ rfl (b_ rfl (f_ ?_)))
  have et : l.take i = l := List.take_of_length_le (by omega)
  rw [et] at hrow hol
  refine c_ (a_ (h_ rfl) rfl (Q_ (or_ hrow (by omega)) rfl ba_ (fun _ _ _ => by exact trivial) rfl fun ⟨Hs, hs⟩ => ?_))
  dsimp only
  refine at_ (List.Perm.symm ba_) ?_
  have hs2 : bk_ 9 1 sv ((cB_ l).mergeSort fun x y => decide (x ≤ y)).length (((cB_ l).mergeSort fun x y => decide (x ≤ y)).flatMap bg_) Hs := by rw [List.length_mergeSort]; exact hs
  refine d_ (b_ rfl (f_ (c_ (a_ (h_ rfl) rfl (Q_ (kj_ hs2 (by rw [List.length_mergeSort]; omega)) rfl ba_ (fun _ _ _ => by exact trivial) rfl fun ⟨⟨sc, Hc⟩, hc⟩ => ?_)))))
  dsimp only
  refine at_ (List.Perm.symm ba_) (a_ (g_ rfl) rfl (d_ (b_ rfl (B_ (gk_ hc ba_ fun ad2 cp2 hsv hc1 hc2 => ?_)))))
  exact as_ Tryz.results98 ⟨(ad2, cp2), hc1, hc2⟩ (gn_ rfl hsv) W_ (fun v _ h => ⟨h.1, trivial⟩)
 ·
  replace hr1 := of_decide_eq_true hr1
  have hlx1 : i < List.length l := by omega
  obtain ⟨x1, hx1⟩ : ∃ e0, l[i]? = some e0 := ⟨_, List.getElem?_eq_getElem hlx1⟩
  have hmx1 : x1 ∈ l := List.mem_of_getElem? hx1
  refine n_ rfl (A_ (b_ rfl (f_ (S_ (f_ (c_ (a_ (ak_ G_ U_ rfl rfl (fun v _ h => aL_ (n := 10) Pc.cells_len (by decide) (by exact h.1) hx1) (by omega) (by first | omega | (simp; done))) rfl (a_ (aE_ (ad := ad) (us := Pc.cells x1) bh_ U_ rfl (fun v _ h => by exact h.1) (Pc.cells_len _) (an_ Pc.cells_len hx1)) rfl (al_ ap_ rfl fun b1 => ?_)))))))))
  refine Z_ 0 U_ rfl rfl rfl rfl rfl rfl (d_ (b_ rfl (f_ (c_ (a_ (j_ F_ rfl rfl rfl s_) rfl (a_ (q_ 0 w_ rfl rfl rfl) rfl (a_ (j_ F_ rfl rfl rfl s_) rfl (a_ (q_ 0 w_ rfl rfl rfl) rfl (a_ (j_ F_ rfl rfl rfl s_) rfl ?_)))))))))
  refine a_ (q_ 0 w_ rfl rfl rfl) rfl (aK_ P_ s_ bq_ rfl rfl rfl rfl rfl rfl fun b2 => ?_)
  refine dT_ (List.flatMap bg_ [(Pc.a x1), (Pc.b x1), (Pc.c x1)]) i_ rfl ?_
  refine a_ (ah_ P_ rfl) rfl (a_ (h_ rfl) rfl (d_ (b_ rfl (S_ (bS_ [(2, sv), (7, .slice ad (List.length l) cap), (8, .int .i64 (List.length l : Int)), (9, .int .i64 (i : Int)), (19, .slice (some ⟨b2, 0, none⟩) (List.length [(Pc.a x1), (Pc.b x1), (Pc.c x1)]) 3), (20, .int .i64 3), (21, .int .i64 ((0 : Nat) : Int))] ⟨rfl, rfl, rfl, rfl, rfl, rfl, rfl, trivial⟩ ?_)))))
  refine bY_ (ι := {y : Nat × Value × Hp // y.1 ≤ 3 ∧ bk_ 9 1 y.2.1 (cB_ (l.take i) ++ (List.take y.1 [x1.a, x1.b, x1.c]).filter fun s => !(s == [])).length ((cB_ (l.take i) ++ (List.take y.1 [x1.a, x1.b, x1.c]).filter fun s => !(s == [])).flatMap bg_) y.2.2}) (fun y => [(2, y.1.2.1), (7, .slice ad (List.length l) cap), (8, .int .i64 (List.length l : Int)), (9, .int .i64 (i : Int)), (19, .slice (some ⟨b2, 0, none⟩) (List.length [(Pc.a x1), (Pc.b x1), (Pc.c x1)]) 3), (20, .int .i64 3), (21, .int .i64 (y.1.1 : Int))]) (fun y => _ ::  y.1.2.2) (fun _ => _) (fun y => 3 - y.1.1) ⟨(0, sv, Hr), by simp, by simpa using hrow⟩ ?_
  rintro ⟨⟨k, sw, Hw⟩, hk, hkr⟩
  dsimp only at hk hkr
  dsimp only
  have hfl : ((cB_ (l.take i) ++ (List.take k [x1.a, x1.b, x1.c]).filter fun s => !(s == []))).length ≤ (cB_ (l.take i)).length + 3 := by
   have := List.length_filter_le (fun s => !(s == [])) (List.take k [x1.a, x1.b, x1.c])
   simp only [List.length_append, List.length_take, List.length_cons, List.length_nil] at this ⊢
   omega
  refine bS_ [(2, sw), (7, .slice ad (List.length l) cap), (8, .int .i64 (List.length l : Int)), (9, .int .i64 (i : Int)), (19, .slice (some ⟨b2, 0, none⟩) (List.length [(Pc.a x1), (Pc.b x1), (Pc.c x1)]) 3), (20, .int .i64 3), (21, .int .i64 (k : Int))] ⟨rfl, rfl, rfl, rfl, rfl, rfl, rfl, trivial⟩ ?_
  refine f_ (c_ (x_ (az_ rfl rfl) rfl fun r2 hr2 => ?_))
  refine d_ (b_ rfl (f_ ?_))
  cases r2
  ·
   replace hr2 := of_decide_eq_false hr2
   refine p_ rfl (aD_ rfl (b_ rfl (c_ (a_ (V_ rfl rfl rfl (aq_ (by omega) (by omega))) rfl (a_ (h_ rfl) rfl (d_ (r_ rfl ?_)))))))
   have hst : cB_ (l.take (i + 1)) = cB_ (l.take i) ++ kq_ x1 := by unfold cB_; rw [List.take_add_one, hx1, List.flatMap_append]; simp
   exact ao_ ⟨(i + 1, sw, Hw), hlx1, by dsimp only; rw [hst]; have := hkr; rw [List.take_of_length_le (show [x1.a, x1.b, x1.c].length ≤ k by simp; omega)] at this; exact this⟩ (by dsimp only; omega) ⟨rfl, rfl, rfl, rfl, trivial⟩ (e_ ba_) (fun _ _ h => h.2)
  ·
   replace hr2 := of_decide_eq_true hr2
   have hly1 : k < List.length [(Pc.a x1), (Pc.b x1), (Pc.c x1)] := by simp; omega
   obtain ⟨y1, hy1⟩ : ∃ e0, [(Pc.a x1), (Pc.b x1), (Pc.c x1)][k]? = some e0 := ⟨_, List.getElem?_eq_getElem hly1⟩
   have hmy1 : y1 ∈ [(Pc.a x1), (Pc.b x1), (Pc.c x1)] := List.mem_of_getElem? hy1
   refine n_ rfl (A_ (b_ rfl (f_ (S_ (f_ (c_ (a_ (ak_ P_ s_ rfl rfl (fun v _ h => aL_ (n := 1) aX_ (by decide) (by exact h.1) hy1) (by omega) (by first | omega | (simp; done))) rfl (a_ (bH_ (ad := (some ⟨b2, 0, none⟩)) w_ rfl (fun v _ h => by exact h.1) (an_ aX_ hy1 0 _ rfl)) rfl (a_ (g_ rfl) rfl ?_)))))))))
   refine d_ (b_ rfl (f_ (c_ (a_ (h_ rfl) rfl (x_ (eI_ rfl rfl) rfl fun r3 hr3 => ?_)))))
   refine d_ (b_ rfl ?_)
   cases r3
   ·
    replace hr3 := bc_ hr3
    refine p_ rfl (A_ (b_ rfl (c_ (a_ (V_ rfl rfl rfl (aq_ (by omega) (by omega))) rfl (a_ (h_ rfl) rfl (d_ (r_ rfl ?_)))))))
    have hst : (cB_ (l.take i) ++ (List.take (k + 1) [x1.a, x1.b, x1.c]).filter fun s => !(s == [])) = (cB_ (l.take i) ++ (List.take k [x1.a, x1.b, x1.c]).filter fun s => !(s == [])) ++ [y1].filter (fun s => !(s == [])) := by rw [List.append_assoc, ← List.filter_append, List.take_add_one, hy1]; simp
    rw [show [y1].filter (fun s => !(s == [])) = [] by simp [*], List.append_nil] at hst
    exact ao_ ⟨(k + 1, sw, Hw), by dsimp only; omega, by dsimp only; rw [hst]; exact hkr⟩ (by dsimp only; omega) ⟨rfl, rfl, rfl, rfl, rfl, rfl, rfl, trivial⟩ (l_ i_ ba_) (fun _ _ h => h)
   ·
    replace hr3 := bb_ hr3
    refine n_ rfl (c_ (a_ (h_ rfl) rfl (a_ (h_ rfl) rfl (aK_ P_ s_ bq_ rfl rfl rfl rfl rfl rfl fun b3 => ?_))))
    refine bd_ (news := [str y1]) eltS hkr rfl rfl (e_ (e_ ba_)) rfl (cQ_ 0 rfl) (hf_ rfl) (by simp only [maxLen]; omega) (by omega) rfl fun sv2 Hr2 hrow2 => ?_
    refine at_ (@List.perm_append_comm _ _ [_, _]) (a_ (g_ rfl) rfl (d_ (b_ rfl (c_ (a_ (V_ rfl rfl rfl (aq_ (by omega) (by omega))) rfl (a_ (h_ rfl) rfl (d_ (r_ rfl ?_))))))))
    have hst : (cB_ (l.take i) ++ (List.take (k + 1) [x1.a, x1.b, x1.c]).filter fun s => !(s == [])) = (cB_ (l.take i) ++ (List.take k [x1.a, x1.b, x1.c]).filter fun s => !(s == [])) ++ [y1].filter (fun s => !(s == [])) := by rw [List.append_assoc, ← List.filter_append, List.take_add_one, hy1]; simp
    rw [show [y1].filter (fun s => !(s == [])) = [y1] by simp [*]] at hst
    exact ao_ ⟨(k + 1, sv2, Hr2), by dsimp only; omega, by dsimp only; rw [hst]; rw [List.length_append (bs := [y1]), List.flatMap_append (ys := [y1])]; exact hrow2⟩ (by dsimp only; omega) ⟨rfl, rfl, rfl, rfl, rfl, rfl, rfl, trivial⟩ (l_ (e_ i_) (e_ ba_)) (fun _ _ h => h)
end Go.Proofs.YtpdbbglpbngeiaaGreatDoor
namespace Go.Sx
open Go
section
variable {P : Program} {N : Nat} {v0 : Vw} {H0 : Hp} {R : Exit → Act → World → Prop} {K : List Kt} {fr : Fr} {H : Hp} {Γ : List Fct}
variable {ops : Array Oper} {l : List Oper} {d : Nat} {ty : TypeId} {ps : String} {af : Array Edge}
end
end Go.Sx
namespace Go.Vs
open Go Go.Sx
theorem lm_ {a v : Int} : ∀ {l : List Pc} {i : Nat}, v ∈ ofs a i l → ∃ (j : Nat) (p : Pc), v = ((i + j : Nat) : Int) ∧ l[j]? = some p ∧ p.frm = a
  | [], _, h => by simp [ofs] at h
  | p :: r, i, h => by
    simp only [ofs] at h
    have key : v ∈ ofs a (i + 1) r → ∃ (j : Nat) (q : Pc), v = ((i + j : Nat) : Int) ∧ (p :: r)[j]? = some q ∧ q.frm = a := fun h => by
      obtain ⟨j, q, e, h1, h2⟩ := lm_ h
      exact ⟨j + 1, q, by rw [e]; congr 1; omega, by simpa using h1, h2⟩
    split at h
    · rename_i hp
      rcases List.mem_cons.1 h with e | h
      · exact ⟨0, p, by simpa using e, rfl, hp⟩
      · exact key h
    · exact key h
theorem qF_ {a v : Int} {l : List Pc} (h : v ∈ ofs a 0 l) : ∃ (j : Nat) (p : Pc), v = (j : Int) ∧ l[j]? = some p ∧ p.frm = a := by
  obtain ⟨j, p, e, h1, h2⟩ := lm_ h
  exact ⟨j, p, by rw [e, Nat.zero_add], h1, h2⟩
theorem oz_ {a : Int} : ∀ {l : List Pc} {i j : Nat} {p : Pc}, l[j]? = some p → p.frm = a → ((i + j : Nat) : Int) ∈ ofs a i l
  | [], _, _, _, h, _ => by simp at h
  | q :: r, i, 0, p, h, hp => by
    simp only [List.getElem?_cons_zero, Option.some.injEq] at h
    subst h
    simp only [ofs, hp, if_true]
    exact List.mem_cons_self
  | q :: r, i, j + 1, p, h, hp => by
    have := oz_ (i := i + 1) (by simpa using h) hp
    rw [show i + 1 + j = i + (j + 1) by omega] at this
    simp only [ofs]
    split
    · exact List.mem_cons_of_mem _ this
    · exact this
def Cov (hs : List Bool) (L S : List Str) : Prop := hs.length = L.length ∧ ∀ (n : Nat) (s : Str), L[n]? = some s → s ∈ S → hs[n]? = some true
theorem Cov.nil (L : List Str) : Cov (List.replicate L.length false) L [] := ⟨by simp, fun _ _ _ h => by simp at h⟩
theorem Cov.set {hs : List Bool} {L S : List Str} (h : Cov hs L S) (n : Nat) : Cov (hs.set n true) L S := ⟨by rw [List.length_set]; exact h.1, fun m s h1 h2 => by
  have h3 := h.2 m s h1 h2
  rw [List.getElem?_set]
  split
  · rename_i e
    subst e
    rw [if_pos (List.getElem?_eq_some_iff.1 h3).1]
  · exact h3⟩
def ok_ (hs : List Bool) (L S : List Str) (y : Str) (n : Nat) : Prop := Cov hs L S ∧ ∀ m, m < n → L[m]? = some y → hs[m]? = some true
theorem ok_.zero {hs : List Bool} {L S : List Str} {y : Str} (h : Cov hs L S) : ok_ hs L S y 0 := ⟨h, fun _ h => by omega⟩
theorem ok_.hit {hs : List Bool} {L S : List Str} {y : Str} {n : Nat} (h : ok_ hs L S y n) (hn : n < L.length) : ok_ (hs.set n true) L S y (n + 1) := ⟨h.1.set n, fun m hm e => by
  rw [List.getElem?_set]
  split
  · rename_i e
    rw [if_pos (by rw [h.1.1]; omega)]
  · rename_i e2
    exact h.2 m (by omega) e⟩
theorem ok_.done {hs : List Bool} {L S : List Str} {y : Str} {n : Nat} (h : ok_ hs L S y n) (hn : L.length ≤ n) : Cov hs L (S ++ [y]) := ⟨h.1.1, fun m s h1 h2 => by
  rcases List.mem_append.1 h2 with h2 | h2
  · exact h.1.2 m s h1 h2
  · simp only [List.mem_singleton] at h2
    subst h2
    have := (List.getElem?_eq_some_iff.1 h1).1
    exact h.2 m (by omega) h1⟩
def three (p : Pc) : List Str := [p.a, p.b, p.c]
theorem Cov.all {hs : List Bool} {l : List Pc} (h : Cov hs (dW_ l) (l.flatMap three)) {n : Nat} (hn : n < (dW_ l).length) : hs[n]? = some true := by
  have hm := (gu_ l _).1 (List.getElem_mem hn)
  refine h.2 n _ (List.getElem?_eq_getElem hn) ?_
  simp only [cB_, List.mem_flatMap, kq_, List.mem_filter] at hm
  obtain ⟨p, h1, h2⟩ := hm
  exact List.mem_flatMap.2 ⟨p, h1, h2.1⟩
end Go.Vs
namespace Go.Vs
open Go Go.Sx
-- valid pieces, kind by kind
section
variable {a b c r s t : Str} {lo hi f : Int}
end
-- atoms
-- roles
structure RInv (s : Str) (a i : Nat) (dn : List Str) : Prop where
  le : a ≤ i
  il : i ≤ s.length
  no : ixS 46 ((s.drop a).take (i - a)) = none
  sp : bs_ 46 s = dn ++ bs_ 46 (s.drop a)
  al : dn.all bi_ = true
structure REnd (s : Str) (i : Nat) (dn : List Str) : Prop where
  il : i = s.length + 1
  sp : bs_ 46 s = dn
  al : dn.all bi_ = true
theorem RInv.len {s : Str} {a i : Nat} {dn : List Str} (h : RInv s a i dn) : dn.length ≤ s.length + 1 := by
  have h1 := dO_ 46 s
  have h2 := je_ 46 s
  rw [h.sp, List.length_append] at h1
  omega
theorem REnd.len {s : Str} {i : Nat} {dn : List Str} (h : REnd s i dn) : dn.length ≤ s.length + 1 := by
  have h1 := dO_ 46 s
  have h2 := je_ 46 s
  rw [h.sp] at h1
  omega
theorem REnd.role {s : Str} {i : Nat} {dn : List Str} (h : REnd s i dn) : cw_ s = decide ((dn.length : Int) ≤ 4) := by
  unfold cw_
  rw [h.sp]
  have : dn.any (fun r => !bi_ r) = false := by
    rw [List.any_eq_false]
    intro x hx
    have := List.all_eq_true.1 h.al x hx
    simp [this]
  rw [this]
  simp
  omega
-- sorted insertion
end Go.Vs
namespace Go.Vs
open Go Go.Sx
def aG_ (a b : Str) : Fc := ⟨1, a, b, [], 0, 0⟩
def aP_ (a r b : Str) : Fc := ⟨2, a, b, r, 0, 0⟩
def aM_ (a r : Str) (lo hi : Int) : Fc := ⟨3, a, [], r, lo, hi⟩
inductive One (p : List Pc) (A : List Str) (S : Fc → Prop) (M : Fc → Fc → Prop) : Fc → Prop
  | r1 {a : Str} (h : a ∈ A) : One p A S M (aG_ a a)
  | r2 {a : Str} (h : a ∈ A) : One p A S M (aG_ a [42])
  | r10 {a : Str} {x : Pc} (hx : x ∈ p) (hk : x.kind = 7) (h : a ∈ A) : One p A S M (aP_ a x.r a)
  | r3 {a : Str} {x : Pc} (hx : x ∈ p) (hk : x.kind = 1) (h : S (aG_ a x.a)) : One p A S M (aG_ a x.c)
  | r4 {a : Str} {x : Pc} (hx : x ∈ p) (hk : x.kind = 2) (h : S (aG_ a x.a)) (h' : S (aG_ a x.b)) : One p A S M (aG_ a x.c)
  | r5 {a : Str} {x : Pc} (hx : x ∈ p) (hk : x.kind = 3) (h : S (aG_ a x.a)) : One p A S M (aP_ a x.r x.c)
  | r6 {a b : Str} {x : Pc} (hx : x ∈ p) (hk : x.kind = 5) (h : S (aP_ a x.r b)) : One p A S M (aP_ a x.t b)
  | r7 {a b c : Str} {x : Pc} (hx : x ∈ p) (hk : x.kind = 6) (h : S (aP_ a x.r b)) (h' : S (aP_ b x.s c)) : One p A S M (aP_ a x.t c)
  | r8 {a b : Str} {x : Pc} (hx : x ∈ p) (hk : x.kind = 4) (h : S (aP_ a x.r b)) (h' : S (aG_ b x.a)) : One p A S M (aG_ a x.c)
  | r9 {a r b : Str} (h : S (aP_ a r b)) (h' : S (aG_ b [33])) : One p A S M (aG_ a [33])
  | r11 {a : Str} {x : Pc} (hx : x ∈ p) (hk : x.kind = 8) (h : S (aG_ a x.a)) : One p A S M (aM_ a x.r x.lo x.hi)
  | r12 {a r : Str} {lo hi lo' hi' : Int} (h : S (aM_ a r lo hi)) (h' : S (aM_ a r lo' hi')) (hm : M (aM_ a r lo hi) (aM_ a r lo' hi')) (hl : max lo lo' ≤ min hi hi') : One p A S M (aM_ a r (max lo lo') (min hi hi'))
  | r13 {a r : Str} {lo hi lo' hi' : Int} (h : S (aM_ a r lo hi)) (h' : S (aM_ a r lo' hi')) (hm : M (aM_ a r lo hi) (aM_ a r lo' hi')) (hl : min hi hi' < max lo lo') : One p A S M (aG_ a [33])
  | r14 {a : Str} {lo hi : Int} {x : Pc} (hx : x ∈ p) (hk : x.kind = 9) (h : S (aM_ a x.r lo hi)) (h1 : x.lo ≤ lo) (h2 : hi ≤ x.hi) : One p A S M (aG_ a x.c)
abbrev fX_ (p : List Pc) (A : List Str) (S : Fc → Prop) : Fc → Prop := One p A S (fun _ _ => True)
theorem One.mono {p p' : List Pc} {A A' : List Str} {S S' : Fc → Prop} {M M' : Fc → Fc → Prop} (hp : ∀ x ∈ p, ∃ y ∈ p', ∃ n, { y with frm := n } = x) (hA : ∀ a ∈ A, a ∈ A') (hS : ∀ y, S y → S' y) (hM : ∀ x y, M x y → M' x y) {y : Fc} (h : One p A S M y) : One p' A' S' M' y := by
  cases h with
  | r1 h => exact .r1 (hA _ h)
  | r2 h => exact .r2 (hA _ h)
  | r10 hx hk h => obtain ⟨z, hz, n, rfl⟩ := hp _ hx; exact One.r10 (x := z) hz hk (hA _ h)
  | r3 hx hk h => obtain ⟨z, hz, n, rfl⟩ := hp _ hx; exact One.r3 (x := z) hz hk (hS _ h)
  | r4 hx hk h h' => obtain ⟨z, hz, n, rfl⟩ := hp _ hx; exact One.r4 (x := z) hz hk (hS _ h) (hS _ h')
  | r5 hx hk h => obtain ⟨z, hz, n, rfl⟩ := hp _ hx; exact One.r5 (x := z) hz hk (hS _ h)
  | r6 hx hk h => obtain ⟨z, hz, n, rfl⟩ := hp _ hx; exact One.r6 (x := z) hz hk (hS _ h)
  | r7 hx hk h h' => obtain ⟨z, hz, n, rfl⟩ := hp _ hx; exact One.r7 (x := z) hz hk (hS _ h) (hS _ h')
  | r8 hx hk h h' => obtain ⟨z, hz, n, rfl⟩ := hp _ hx; exact One.r8 (x := z) hz hk (hS _ h) (hS _ h')
  | r9 h h' => exact .r9 (hS _ h) (hS _ h')
  | r11 hx hk h => obtain ⟨z, hz, n, rfl⟩ := hp _ hx; exact One.r11 (x := z) hz hk (hS _ h)
  | r12 h h' hm hl => exact .r12 (hS _ h) (hS _ h') (hM _ _ hm) hl
  | r13 h h' hm hl => exact .r13 (hS _ h) (hS _ h') (hM _ _ hm) hl
  | r14 hx hk h h1 h2 => obtain ⟨z, hz, n, rfl⟩ := hp _ hx; exact One.r14 (x := z) hz hk (hS _ h) h1 h2
def Der (p : List Pc) (A : List Str) (y : Fc) : Prop := ∀ T : Fc → Prop, (∀ y, fX_ p A T y → T y) → T y
theorem Der.step {p : List Pc} {A : List Str} {y : Fc} (h : fX_ p A (Der p A) y) : Der p A y :=
  fun T hT => hT y (h.mono (fun x hx => ⟨x, hx, x.frm, rfl⟩) (fun _ h => h) (fun z hz => hz T hT) (fun _ _ h => h))
theorem Der.mono {p p' : List Pc} {A A' : List Str} (hp : ∀ x ∈ p, ∃ y ∈ p', ∃ n, { y with frm := n } = x) (hA : ∀ a ∈ A, a ∈ A') {y : Fc} (h : Der p A y) : Der p' A' y :=
  h _ fun _ hz => Der.step (hz.mono hp hA (fun _ h => h) (fun _ _ h => h))
theorem Der.least {p : List Pc} {A : List Str} {T : Fc → Prop} (hT : ∀ y, fX_ p A T y → T y) {y : Fc} (h : Der p A y) : T y := h T hT
structure Ky where
  kind : Int
  role : Str
  atom : Str
deriving DecidableEq
abbrev hD_ := Str × Str
def lat {K D : Type} [DecidableEq K] (l : List (K × D)) (k : K) : List D := (l.filter fun e => decide (e.1 = k)).map (·.2)
theorem da_ {K D : Type} [DecidableEq K] {l : List (K × D)} {k : K} {d : D} : d ∈ lat l k ↔ (k, d) ∈ l := by
  unfold lat
  simp only [List.mem_map, List.mem_filter, decide_eq_true_eq]
  exact ⟨fun ⟨⟨a, b⟩, ⟨h1, h2⟩, h3⟩ => by subst h2; subst h3; exact h1, fun h => ⟨(k, d), ⟨h, rfl⟩, rfl⟩⟩
theorem jT_ {K D : Type} [DecidableEq K] (l m : List (K × D)) (k : K) : lat (l ++ m) k = lat l k ++ lat m k := by simp [lat]
theorem fv_ {K D : Type} [DecidableEq K] (l : List (K × D)) (k : K) : (lat l k).length ≤ l.length := by
  simp only [lat, List.length_map]; exact List.length_filter_le _ _
def cD_ (x : Pc) : List (Ky × Pc) :=
  if x.kind = 1 ∨ x.kind = 3 ∨ x.kind = 8 then [(⟨x.kind, [], x.a⟩, x)]
  else if x.kind = 2 then if x.b ≠ x.a then [(⟨x.kind, [], x.a⟩, x), (⟨x.kind, [], x.b⟩, x)] else [(⟨x.kind, [], x.a⟩, x)]
  else if x.kind = 4 then [(⟨x.kind, [], x.a⟩, x), (⟨x.kind, x.r, x.a⟩, x)]
  else if x.kind = 5 ∨ x.kind = 9 then [(⟨x.kind, x.r, []⟩, x)]
  else if x.kind = 6 then [(⟨x.kind, x.r, []⟩, x), (⟨x.kind, [], x.s⟩, x)]
  else []
def Pc.zf (x : Pc) : Pc := { x with frm := 0 }
def uniq : List Pc → List Pc → List Pc
  | l, [] => l
  | l, x :: r => uniq (if x.zf ∈ l then l else l ++ [x.zf]) r
theorem hJ_ : ∀ (r l : List Pc) (x : Pc), x ∈ uniq l r ↔ x ∈ l ∨ ∃ y ∈ r, y.zf = x
  | [], l, x => by simp [uniq]
  | y :: r, l, x => by
    rw [uniq, hJ_ r]
    by_cases h : y.zf ∈ l
    · rw [if_pos h]
      constructor
      · rintro (h1 | ⟨z, h1, h2⟩)
        · exact .inl h1
        · exact .inr ⟨z, by simp [h1], h2⟩
      · rintro (h1 | ⟨z, h1, h2⟩)
        · exact .inl h1
        · rcases List.mem_cons.1 h1 with rfl | h1
          · exact .inl (h2 ▸ h)
          · exact .inr ⟨z, h1, h2⟩
    · rw [if_neg h]
      simp only [List.mem_append, List.mem_cons, List.not_mem_nil, or_false]
      constructor
      · rintro ((h1 | h1) | ⟨z, h1, h2⟩)
        · exact .inl h1
        · exact .inr ⟨y, .inl rfl, h1.symm⟩
        · exact .inr ⟨z, .inr h1, h2⟩
      · rintro (h1 | ⟨z, h1 | h1, h2⟩)
        · exact .inl (.inl h1)
        · subst h1; exact .inl (.inr h2.symm)
        · exact .inr ⟨z, h1, h2⟩
theorem hK_ : ∀ (r l : List Pc), (uniq l r).length ≤ l.length + r.length
  | [], l => by simp [uniq]
  | y :: r, l => by
    rw [uniq]
    have := hK_ r (if y.zf ∈ l then l else l ++ [y.zf])
    have h2 : (if y.zf ∈ l then l else l ++ [y.zf]).length ≤ l.length + 1 := by split <;> simp
    simp only [List.length_cons]
    omega
def aW_ (ps : List Pc) : List (Ky × Pc) := ps.flatMap cD_
def aB_ (ps : List Pc) : List Str := (ps.filter fun x => decide (x.kind = 7)).map (·.r)
theorem qu_ (x : Pc) : ∀ e ∈ cD_ x, e.2 = x ∧ e.1.kind = x.kind := by
  unfold cD_
  repeat' split
  all_goals simp
theorem dQ_ {x y : Pc} {k : Ky} (h : (k, y) ∈ cD_ x) : y = x ∧ k.kind = x.kind := qu_ x _ h
def Pc.rok (x : Pc) : Prop := (x.kind = 4 ∨ x.kind = 5 ∨ x.kind = 6 ∨ x.kind = 9 ∨ x.kind = 3 ∨ x.kind = 7 ∨ x.kind = 8 → x.r ≠ []) ∧ (x.kind = 6 → x.s ≠ [] ∧ x.t ≠ []) ∧ (x.kind = 5 → x.t ≠ [])
theorem fC_ {ps : List Pc} {k : Ky} {x : Pc} : x ∈ lat (aW_ ps) k ↔ x ∈ ps ∧ (k, x) ∈ cD_ x := by
  rw [da_, aW_, List.mem_flatMap]
  constructor
  · rintro ⟨y, hy, h⟩
    obtain ⟨rfl, _⟩ := dQ_ h
    exact ⟨hy, h⟩
  · rintro ⟨h1, h2⟩
    exact ⟨x, h1, h2⟩
theorem pm1 {ps : List Pc} {b : Str} {x : Pc} : x ∈ lat (aW_ ps) ⟨1, [], b⟩ ↔ x ∈ ps ∧ x.kind = 1 ∧ x.a = b := by
  rw [fC_]
  refine and_congr_right fun _ => ⟨fun h => ?_, fun ⟨h, h'⟩ => ?_⟩
  · have hk := (dQ_ h).2
    simp only at hk
    simp [cD_, ← hk] at h
    exact ⟨hk.symm, h.symm⟩
  · subst h'; simp [cD_, h]
theorem pm2 {ps : List Pc} {b : Str} {x : Pc} : x ∈ lat (aW_ ps) ⟨2, [], b⟩ ↔ x ∈ ps ∧ x.kind = 2 ∧ (x.a = b ∨ x.b = b) := by
  rw [fC_]
  refine and_congr_right fun _ => ⟨fun h => ?_, fun ⟨h, h'⟩ => ?_⟩
  · have hk := (dQ_ h).2
    simp only at hk
    simp [cD_, ← hk] at h
    split at h
    · simp at h; exact ⟨hk.symm, .inl h.symm⟩
    · simp at h; rcases h with h | h
      · exact ⟨hk.symm, .inl h.symm⟩
      · exact ⟨hk.symm, .inr h.symm⟩
  · by_cases e : x.b = x.a
    · have : x.a = b := h'.elim id (fun q => e ▸ q)
      subst this; simp [cD_, h, e]
    · rcases h' with rfl | rfl <;> simp [cD_, h, e]
theorem pm3 {ps : List Pc} {b : Str} {x : Pc} : x ∈ lat (aW_ ps) ⟨3, [], b⟩ ↔ x ∈ ps ∧ x.kind = 3 ∧ x.a = b := by
  rw [fC_]
  refine and_congr_right fun _ => ⟨fun h => ?_, fun ⟨h, h'⟩ => ?_⟩
  · have hk := (dQ_ h).2
    simp only at hk
    simp [cD_, ← hk] at h
    exact ⟨hk.symm, h.symm⟩
  · subst h'; simp [cD_, h]
theorem pm8 {ps : List Pc} {b : Str} {x : Pc} : x ∈ lat (aW_ ps) ⟨8, [], b⟩ ↔ x ∈ ps ∧ x.kind = 8 ∧ x.a = b := by
  rw [fC_]
  refine and_congr_right fun _ => ⟨fun h => ?_, fun ⟨h, h'⟩ => ?_⟩
  · have hk := (dQ_ h).2
    simp only at hk
    simp [cD_, ← hk] at h
    exact ⟨hk.symm, h.symm⟩
  · subst h'; simp [cD_, h]
theorem pm5 {ps : List Pc} {r : Str} {x : Pc} : x ∈ lat (aW_ ps) ⟨5, r, []⟩ ↔ x ∈ ps ∧ x.kind = 5 ∧ x.r = r := by
  rw [fC_]
  refine and_congr_right fun _ => ⟨fun h => ?_, fun ⟨h, h'⟩ => ?_⟩
  · have hk := (dQ_ h).2
    simp only at hk
    simp [cD_, ← hk] at h
    exact ⟨hk.symm, h.symm⟩
  · subst h'; simp [cD_, h]
theorem pm9 {ps : List Pc} {r : Str} {x : Pc} : x ∈ lat (aW_ ps) ⟨9, r, []⟩ ↔ x ∈ ps ∧ x.kind = 9 ∧ x.r = r := by
  rw [fC_]
  refine and_congr_right fun _ => ⟨fun h => ?_, fun ⟨h, h'⟩ => ?_⟩
  · have hk := (dQ_ h).2
    simp only at hk
    simp [cD_, ← hk] at h
    exact ⟨hk.symm, h.symm⟩
  · subst h'; simp [cD_, h]
theorem pm6 {ps : List Pc} {r : Str} (hn : r ≠ []) {x : Pc} : x ∈ lat (aW_ ps) ⟨6, r, []⟩ ↔ x ∈ ps ∧ x.kind = 6 ∧ x.r = r := by
  rw [fC_]
  refine and_congr_right fun hx => ⟨fun h => ?_, fun ⟨h, h'⟩ => ?_⟩
  · have hk := (dQ_ h).2
    simp only at hk
    simp [cD_, ← hk, hn] at h
    exact ⟨hk.symm, h.symm⟩
  · subst h'; simp [cD_, h]
theorem pm6' {ps : List Pc} {s : Str} {x : Pc} (hn : s ≠ []) : x ∈ lat (aW_ ps) ⟨6, [], s⟩ ↔ x ∈ ps ∧ x.kind = 6 ∧ x.s = s := by
  rw [fC_]
  refine and_congr_right fun hx => ⟨fun h => ?_, fun ⟨h, h'⟩ => ?_⟩
  · have hk := (dQ_ h).2
    simp only at hk
    simp [cD_, ← hk, hn] at h
    exact ⟨hk.symm, h.symm⟩
  · subst h'; simp [cD_, h]
theorem pm4 {ps : List Pc} (hr : ∀ x ∈ ps, x.rok) {b : Str} {x : Pc} : x ∈ lat (aW_ ps) ⟨4, [], b⟩ ↔ x ∈ ps ∧ x.kind = 4 ∧ x.a = b := by
  rw [fC_]
  refine and_congr_right fun hx => ⟨fun h => ?_, fun ⟨h, h'⟩ => ?_⟩
  · have hk := (dQ_ h).2
    simp only at hk
    have h0 := (hr x hx).1 (.inl hk.symm)
    simp [cD_, ← hk] at h
    refine ⟨hk.symm, h.elim (fun q => q.symm) (fun q => absurd q.1 h0)⟩
  · subst h'; simp [cD_, h]
theorem pm4' {ps : List Pc} {r b : Str} (hn : r ≠ []) {x : Pc} : x ∈ lat (aW_ ps) ⟨4, r, b⟩ ↔ x ∈ ps ∧ x.kind = 4 ∧ x.r = r ∧ x.a = b := by
  rw [fC_]
  refine and_congr_right fun hx => ⟨fun h => ?_, fun ⟨h, h', h''⟩ => ?_⟩
  · have hk := (dQ_ h).2
    simp only at hk
    simp [cD_, ← hk, hn] at h
    exact ⟨hk.symm, h.1.symm, h.2.symm⟩
  · subst h' h''; simp [cD_, h]
structure Ix where
  above : List (Str × Str)
  under : List (Str × Str)
  frm : List (hD_ × Str)
  into : List (hD_ × Str)
  ranges : List (hD_ × Fc)
  firms : List (hD_ × Fc)
def Ix.nil : Ix := ⟨[], [], [], [], [], []⟩
def Ix.add (x : Ix) (firm : Bool) (f : Fc) : Ix :=
  if f.kind = 1 then { x with above := x.above ++ [(f.a, f.b)] }
  else if f.kind = 2 then { x with under := x.under ++ [(f.b, f.a)], frm := x.frm ++ [((f.a, f.r), f.b)], into := x.into ++ [((f.b, f.r), f.a)] }
  else if f.kind = 3 then { x with ranges := x.ranges ++ [((f.a, f.r), f)], firms := if firm then x.firms ++ [((f.a, f.r), f)] else x.firms }
  else x
structure Ix.of (x : Ix) (S Fm : Fc → Prop) : Prop where
  above : ∀ a b, (a, b) ∈ x.above ↔ ∃ f, S f ∧ f.kind = 1 ∧ f.a = a ∧ f.b = b
  under : ∀ b a, (b, a) ∈ x.under ↔ ∃ f, S f ∧ f.kind = 2 ∧ f.a = a ∧ f.b = b
  frm : ∀ a r b, ((a, r), b) ∈ x.frm ↔ ∃ f, S f ∧ f.kind = 2 ∧ f.a = a ∧ f.r = r ∧ f.b = b
  into : ∀ a r b, ((b, r), a) ∈ x.into ↔ ∃ f, S f ∧ f.kind = 2 ∧ f.a = a ∧ f.r = r ∧ f.b = b
  ranges : ∀ a r f, ((a, r), f) ∈ x.ranges ↔ S f ∧ f.kind = 3 ∧ f.a = a ∧ f.r = r
  firms : ∀ a r f, ((a, r), f) ∈ x.firms ↔ S f ∧ Fm f ∧ f.kind = 3 ∧ f.a = a ∧ f.r = r
theorem Ix.of_nil (Fm : Fc → Prop) : Ix.nil.of (fun _ => False) Fm := by
  constructor <;> simp [Ix.nil]
theorem Ix.of_add {x : Ix} {S Fm : Fc → Prop} (h : x.of S Fm) (f : Fc) {b : Bool} (hb : b = true ↔ Fm f) : (x.add b f).of (fun y => S y ∨ y = f) Fm := by
  have key : ∀ (Q : Fc → Prop), (∃ y, (S y ∨ y = f) ∧ Q y) ↔ (∃ y, S y ∧ Q y) ∨ Q f := fun Q => by
    constructor
    · rintro ⟨y, h1 | rfl, h2⟩
      · exact .inl ⟨y, h1, h2⟩
      · exact .inr h2
    · rintro (⟨y, h1, h2⟩ | h2)
      · exact ⟨y, .inl h1, h2⟩
      · exact ⟨f, .inr rfl, h2⟩
  unfold Ix.add
  split
  · rename_i hk
    constructor
    · intro a c; rw [key, ← h.above]; simp [hk]; exact or_congr_right ⟨fun ⟨p, q⟩ => ⟨p.symm, q.symm⟩, fun ⟨p, q⟩ => ⟨p.symm, q.symm⟩⟩
    · intro a c; rw [key, ← h.under]; simp [hk]
    · intro a r c; rw [key, ← h.frm]; simp [hk]
    · intro a r c; rw [key, ← h.into]; simp [hk]
    · intro a r y; rw [h.ranges]; constructor
      · exact fun q => ⟨.inl q.1, q.2⟩
      · rintro ⟨q | rfl, q2⟩
        · exact ⟨q, q2⟩
        · rw [hk] at q2; exact absurd q2.1 (by decide)
    · intro a r y; rw [h.firms]; constructor
      · exact fun q => ⟨.inl q.1, q.2⟩
      · rintro ⟨q | rfl, q2⟩
        · exact ⟨q, q2⟩
        · rw [hk] at q2; exact absurd q2.2.1 (by decide)
  · split
    · rename_i hk
      constructor
      · intro a c; rw [key, ← h.above]; simp [hk]
      · intro a c; rw [key, ← h.under]; simp [hk]; exact or_congr_right ⟨fun ⟨p, q⟩ => ⟨q.symm, p.symm⟩, fun ⟨p, q⟩ => ⟨q.symm, p.symm⟩⟩
      · intro a r c; rw [key, ← h.frm]; simp [hk]; exact or_congr_right ⟨fun ⟨⟨p, q⟩, s⟩ => ⟨p.symm, q.symm, s.symm⟩, fun ⟨p, q, s⟩ => ⟨⟨p.symm, q.symm⟩, s.symm⟩⟩
      · intro a r c; rw [key, ← h.into]; simp [hk]; exact or_congr_right ⟨fun ⟨⟨p, q⟩, s⟩ => ⟨s.symm, q.symm, p.symm⟩, fun ⟨p, q, s⟩ => ⟨⟨s.symm, q.symm⟩, p.symm⟩⟩
      · intro a r y; rw [h.ranges]; constructor
        · exact fun q => ⟨.inl q.1, q.2⟩
        · rintro ⟨q | rfl, q2⟩
          · exact ⟨q, q2⟩
          · rw [hk] at q2; exact absurd q2.1 (by decide)
      · intro a r y; rw [h.firms]; constructor
        · exact fun q => ⟨.inl q.1, q.2⟩
        · rintro ⟨q | rfl, q2⟩
          · exact ⟨q, q2⟩
          · rw [hk] at q2; exact absurd q2.2.1 (by decide)
    · split
      · rename_i hk
        constructor
        · intro a c; rw [key, ← h.above]; simp [hk]
        · intro a c; rw [key, ← h.under]; simp [hk]
        · intro a r c; rw [key, ← h.frm]; simp [hk]
        · intro a r c; rw [key, ← h.into]; simp [hk]
        · intro a r y
          simp only [List.mem_append, List.mem_singleton, h.ranges, Prod.mk.injEq]
          constructor
          · rintro (⟨q, q2⟩ | ⟨⟨rfl, rfl⟩, rfl⟩)
            · exact ⟨.inl q, q2⟩
            · exact ⟨.inr rfl, hk, rfl, rfl⟩
          · rintro ⟨q | rfl, q2, rfl, rfl⟩
            · exact .inl ⟨q, q2, rfl, rfl⟩
            · exact .inr ⟨⟨rfl, rfl⟩, rfl⟩
        · intro a r y
          cases b with
          | false =>
            simp only [Bool.false_eq_true, if_false, h.firms]
            constructor
            · exact fun q => ⟨.inl q.1, q.2⟩
            · rintro ⟨q | rfl, q2⟩
              · exact ⟨q, q2⟩
              · exact absurd (hb.2 q2.1) (by decide)
          | true =>
            simp only [if_true, List.mem_append, List.mem_singleton, h.firms, Prod.mk.injEq]
            constructor
            · rintro (⟨q, q2⟩ | ⟨⟨rfl, rfl⟩, rfl⟩)
              · exact ⟨.inl q, q2⟩
              · exact ⟨.inr rfl, hb.1 rfl, hk, rfl, rfl⟩
            · rintro ⟨q | rfl, q2, q3, rfl, rfl⟩
              · exact .inl ⟨q, q2, q3, rfl, rfl⟩
              · exact .inr ⟨⟨rfl, rfl⟩, rfl⟩
      · rename_i h1 h2 h3
        constructor
        · intro a c; rw [key, ← h.above]; simp [h1]
        · intro a c; rw [key, ← h.under]; simp [h2]
        · intro a r c; rw [key, ← h.frm]; simp [h2]
        · intro a r c; rw [key, ← h.into]; simp [h2]
        · intro a r y; rw [h.ranges]; constructor
          · exact fun q => ⟨.inl q.1, q.2⟩
          · rintro ⟨q | rfl, q2⟩
            · exact ⟨q, q2⟩
            · exact absurd q2.1 h3
        · intro a r y; rw [h.firms]; constructor
          · exact fun q => ⟨.inl q.1, q.2⟩
          · rintro ⟨q | rfl, q2⟩
            · exact ⟨q, q2⟩
            · exact absurd q2.2.1 h3
theorem Ix.of_firm {x : Ix} {S Fm Fm' : Fc → Prop} (h : x.of S Fm) (hf : ∀ y, S y → (Fm y ↔ Fm' y)) : x.of S Fm' :=
  ⟨h.above, h.under, h.frm, h.into, h.ranges, fun a r f => by rw [h.firms]; exact and_congr_right fun hs => by rw [hf f hs]⟩
section
variable (pm : List (Ky × Pc)) (x : Ix) (f : Fc)
def fU_ : List Fc := (lat pm ⟨1, [], f.b⟩).map fun y => aG_ f.a y.c
def kD_ : List Fc := (lat pm ⟨3, [], f.b⟩).map fun y => aP_ f.a y.r y.c
def fR_ : List Fc := (lat pm ⟨5, f.r, []⟩).map fun y => aP_ f.a y.t f.b
def eY_ : List Fc := (lat pm ⟨6, f.r, []⟩).flatMap fun y => (lat x.frm (f.b, y.s)).map fun c => aP_ f.a y.t c
def gt_ : List Fc := (lat pm ⟨6, [], f.r⟩).flatMap fun y => (lat x.into (f.a, y.r)).map fun a => aP_ a y.t f.b
def fe_ : List Fc := (lat x.above f.b).flatMap fun c => (lat pm ⟨4, f.r, c⟩).map fun y => aG_ f.a y.c
def ff_ : List Fc := (lat pm ⟨4, [], f.b⟩).flatMap fun y => (lat x.into (f.a, y.r)).map fun a => aG_ a y.c
def dm_ : List Fc := if f.b = [33] then (lat x.under f.a).map fun a => aG_ a [33] else []
def pt_ : List Fc := ((lat pm ⟨9, f.r, []⟩).filter fun y => decide (y.lo ≤ f.lo ∧ f.hi ≤ y.hi)).map fun y => aG_ f.a y.c
def dz_ (y : Fc) : Fc := aM_ f.a f.r (max f.lo y.lo) (min f.hi y.hi)
def cM_ (y : Fc) : Bool := decide (min f.hi y.hi < max f.lo y.lo)
def em_ (firm : Bool) : List Fc := if firm then lat x.ranges (f.a, f.r) else lat x.firms (f.a, f.r)
def fu_ (l : List Fc) : List Fc := (l.filter fun y => !cM_ f y && decide (dz_ f y ≠ f ∧ dz_ f y ≠ y)).map (dz_ f)
def gx_ (l : List Fc) : List Fc := if l.any (cM_ f) then [aG_ f.a [33]] else []
end
section
variable (stp : Fc → List Fc → List Fc) (kof : List Fc → List Fc)
def emits (L : List Fc) (s : List Fc) : List Fc := L.foldl (fun s y => stp y s) s
def eg_ (f : Fc) (l : List Pc) (s : List Fc) : List Fc := l.foldl (fun s y => if aG_ f.a y.a ∈ kof s ∧ aG_ f.a y.b ∈ kof s then stp (aG_ f.a y.c) s else s) s
def cq_ (f : Fc) (l : List Pc) (s : List Fc × List Fc) : List Fc × List Fc := l.foldl (fun s y => (stp (aM_ f.a y.r y.lo y.hi) s.1, if aM_ f.a y.r y.lo y.hi ∈ kof s.1 then s.2 else aM_ f.a y.r y.lo y.hi :: s.2)) s
end
theorem aQ_ (stp : Fc → List Fc → List Fc) (L M : List Fc) (s : List Fc) : emits stp (L ++ M) s = emits stp M (emits stp L s) := by simp [emits]
structure Grows (stp : Fc → List Fc → List Fc) (kof : List Fc → List Fc) : Prop where
  up : ∀ y s z, z ∈ kof s → z ∈ kof (stp y s)
theorem Grows.emits {stp : Fc → List Fc → List Fc} {kof : List Fc → List Fc} (h : Grows stp kof) : ∀ (L s : List Fc) (z : Fc), z ∈ kof s → z ∈ kof (emits stp L s)
  | [], _, _, hz => hz
  | y :: L, s, z, hz => h.emits L _ z (h.up y s z hz)
theorem eL_ {stp : Fc → List Fc → List Fc} {kof : List Fc → List Fc} (h : Grows stp kof) (f : Fc) : ∀ (l : List Pc) (s : List Fc),
    ∃ L, eg_ stp kof f l s = emits stp L s ∧ (∀ y ∈ L, ∃ x ∈ l, y = aG_ f.a x.c ∧ aG_ f.a x.a ∈ kof (eg_ stp kof f l s) ∧ aG_ f.a x.b ∈ kof (eg_ stp kof f l s)) ∧ (∀ x ∈ l, aG_ f.a x.a ∈ kof s → aG_ f.a x.b ∈ kof s → aG_ f.a x.c ∈ L)
  | [], s => ⟨[], rfl, by simp, by simp⟩
  | x :: l, s => by
    by_cases hc : aG_ f.a x.a ∈ kof s ∧ aG_ f.a x.b ∈ kof s
    · obtain ⟨L, h1, h2, h3⟩ := eL_ h f l (stp (aG_ f.a x.c) s)
      have e : eg_ stp kof f (x :: l) s = eg_ stp kof f l (stp (aG_ f.a x.c) s) := by simp only [eg_, List.foldl_cons, if_pos hc]
      refine ⟨aG_ f.a x.c :: L, by rw [e, h1]; rfl, fun y hy => ?_, fun z hz ha hb => ?_⟩
      · rw [e]
        rcases List.mem_cons.1 hy with rfl | hy
        · refine ⟨x, by simp, rfl, ?_, ?_⟩ <;> rw [h1] <;> exact h.emits L _ _ (h.up _ _ _ (by first | exact hc.1 | exact hc.2))
        · obtain ⟨z, hz, q⟩ := h2 y hy
          exact ⟨z, by simp [hz], q⟩
      · rcases List.mem_cons.1 hz with rfl | hz
        · simp
        · exact List.mem_cons_of_mem _ (h3 z hz (h.up _ _ _ ha) (h.up _ _ _ hb))
    · obtain ⟨L, h1, h2, h3⟩ := eL_ h f l s
      have e : eg_ stp kof f (x :: l) s = eg_ stp kof f l s := by simp only [eg_, List.foldl_cons, if_neg hc]
      refine ⟨L, by rw [e, h1], fun y hy => ?_, fun z hz ha hb => ?_⟩
      · rw [e]
        obtain ⟨z, hz, q⟩ := h2 y hy
        exact ⟨z, by simp [hz], q⟩
      · rcases List.mem_cons.1 hz with rfl | hz
        · exact absurd ⟨ha, hb⟩ hc
        · exact h3 z hz ha hb
theorem eC_ (stp : Fc → List Fc → List Fc) (kof : List Fc → List Fc) (f : Fc) : ∀ (l : List Pc) (s fm : List Fc), (cq_ stp kof f l (s, fm)).1 = emits stp (l.map fun y => aM_ f.a y.r y.lo y.hi) s
  | [], _, _ => rfl
  | x :: l, s, fm => by
    simp only [cq_, List.foldl_cons, List.map_cons, emits]
    exact eC_ stp kof f l _ _
theorem gd_ {stp : Fc → List Fc → List Fc} {kof : List Fc → List Fc} (h : Grows stp kof) (f : Fc) : ∀ (l : List Pc) (s fm : List Fc) (z : Fc), z ∈ (cq_ stp kof f l (s, fm)).2 ↔ z ∈ fm ∨ (z ∉ kof s ∧ z ∈ (cq_ stp kof f l (s, fm)).2)
  | [], s, fm, z => by simp [cq_]
  | x :: l, s, fm, z => by
    have ih := gd_ h f l (stp (aM_ f.a x.r x.lo x.hi) s) (if aM_ f.a x.r x.lo x.hi ∈ kof s then fm else aM_ f.a x.r x.lo x.hi :: fm) z
    have e : cq_ stp kof f (x :: l) (s, fm) = cq_ stp kof f l (stp (aM_ f.a x.r x.lo x.hi) s, if aM_ f.a x.r x.lo x.hi ∈ kof s then fm else aM_ f.a x.r x.lo x.hi :: fm) := rfl
    rw [e]
    constructor
    · intro hz
      rcases ih.1 hz with h1 | h1
      · split at h1
        · exact .inl h1
        · rename_i hn
          rcases List.mem_cons.1 h1 with rfl | h1
          · exact .inr ⟨hn, hz⟩
          · exact .inl h1
      · exact .inr ⟨fun q => h1.1 (h.up _ _ _ q), hz⟩
    · rintro (h1 | h1)
      · exact ih.2 (.inl (by split <;> simp [h1]))
      · exact h1.2
theorem jk_ {stp : Fc → List Fc → List Fc} {kof : List Fc → List Fc} (f : Fc) : ∀ (l : List Pc) (s fm : List Fc) (z : Fc), z ∈ (cq_ stp kof f l (s, fm)).2 → z ∈ fm ∨ ∃ y ∈ l, z = aM_ f.a y.r y.lo y.hi
  | [], s, fm, z, hz => .inl hz
  | x :: l, s, fm, z, hz => by
    have e : cq_ stp kof f (x :: l) (s, fm) = cq_ stp kof f l (stp (aM_ f.a x.r x.lo x.hi) s, if aM_ f.a x.r x.lo x.hi ∈ kof s then fm else aM_ f.a x.r x.lo x.hi :: fm) := rfl
    rw [e] at hz
    rcases jk_ f l _ _ z hz with h1 | ⟨y, hy, h1⟩
    · split at h1
      · exact .inl h1
      · rcases List.mem_cons.1 h1 with rfl | h1
        · exact .inr ⟨x, by simp, rfl⟩
        · exact .inl h1
    · exact .inr ⟨y, by simp [hy], h1⟩
def Fc.form (y : Fc) : Prop := (∃ a b, y = aG_ a b) ∨ (∃ a r b, y = aP_ a r b ∧ r ≠ []) ∨ (∃ a r lo hi, y = aM_ a r lo hi ∧ r ≠ [] ∧ -1099511627776 ≤ lo ∧ lo ≤ hi ∧ hi ≤ 1099511627776)
structure Pc.vok (x : Pc) : Prop where
  rok : x.rok
  num : x.kind = 8 ∨ x.kind = 9 → -1099511627776 ≤ x.lo ∧ x.lo ≤ x.hi ∧ x.hi ≤ 1099511627776
theorem en_ (a b : Str) : (aG_ a b).form := .inl ⟨a, b, rfl⟩
theorem kb_ {f : Fc} (h : f.form) (hk : f.kind = 1) : f = aG_ f.a f.b := by
  rcases h with ⟨a, b, rfl⟩ | ⟨a, r, b, rfl, _⟩ | ⟨a, r, lo, hi, rfl, _⟩
  · rfl
  · simp [aP_] at hk
  · simp [aM_] at hk
theorem ic_ {f : Fc} (h : f.form) (hk : f.kind = 2) : f = aP_ f.a f.r f.b ∧ f.r ≠ [] := by
  rcases h with ⟨a, b, rfl⟩ | ⟨a, r, b, rfl, h⟩ | ⟨a, r, lo, hi, rfl, _⟩
  · simp [aG_] at hk
  · exact ⟨rfl, h⟩
  · simp [aM_] at hk
theorem gz_ {f : Fc} (h : f.form) (hk : f.kind = 3) : f = aM_ f.a f.r f.lo f.hi ∧ f.r ≠ [] ∧ -1099511627776 ≤ f.lo ∧ f.lo ≤ f.hi ∧ f.hi ≤ 1099511627776 := by
  rcases h with ⟨a, b, rfl⟩ | ⟨a, r, b, rfl, _⟩ | ⟨a, r, lo, hi, rfl, h⟩
  · simp [aG_] at hk
  · simp [aP_] at hk
  · exact ⟨rfl, h⟩
theorem hi_ {f : Fc} (h : f.form) : f.kind = 1 ∨ f.kind = 2 ∨ f.kind = 3 := by
  rcases h with ⟨a, b, rfl⟩ | ⟨a, r, b, rfl, h⟩ | ⟨a, r, lo, hi, rfl, _⟩ <;> simp [aG_, aP_, aM_]
theorem One.form {p : List Pc} {A : List Str} {S : Fc → Prop} {M : Fc → Fc → Prop} (hp : ∀ x ∈ p, x.vok) (hS : ∀ y, S y → y.form) {y : Fc} (h : One p A S M y) : y.form := by
  have link_r : ∀ {a r b : Str}, S (aP_ a r b) → r ≠ [] := fun h => (ic_ (hS _ h) rfl).2
  have span_r : ∀ {a r : Str} {lo hi : Int}, S (aM_ a r lo hi) → r ≠ [] ∧ -1099511627776 ≤ lo ∧ lo ≤ hi ∧ hi ≤ 1099511627776 := fun h => (gz_ (hS _ h) rfl).2
  cases h with
  | r1 _ => exact en_ _ _
  | r2 _ => exact en_ _ _
  | r10 hx hk _ => exact .inr (.inl ⟨_, _, _, rfl, (hp _ hx).rok.1 (by simp [hk])⟩)
  | r3 _ _ _ => exact en_ _ _
  | r4 _ _ _ _ => exact en_ _ _
  | r5 hx hk _ => exact .inr (.inl ⟨_, _, _, rfl, (hp _ hx).rok.1 (by simp [hk])⟩)
  | r6 hx hk _ => exact .inr (.inl ⟨_, _, _, rfl, (hp _ hx).rok.2.2 hk⟩)
  | r7 hx hk _ _ => exact .inr (.inl ⟨_, _, _, rfl, ((hp _ hx).rok.2.1 hk).2⟩)
  | r8 _ _ _ _ => exact en_ _ _
  | r9 _ _ => exact en_ _ _
  | r11 hx hk _ => exact .inr (.inr ⟨_, _, _, _, rfl, (hp _ hx).rok.1 (by simp [hk]), (hp _ hx).num (.inl hk)⟩)
  | r12 h h' _ hl => exact .inr (.inr ⟨_, _, _, _, rfl, (span_r h).1, by have := span_r h; omega, hl, by have := span_r h; omega⟩)
  | r13 _ _ _ _ => exact en_ _ _
  | r14 _ _ _ _ _ => exact en_ _ _
section
variable {ps : List Pc} {A : List Str} {x : Ix} {S Fm : Fc → Prop} {f : Fc} {kn : List Fc}
theorem kw_ (hk : f.kind = 1) (hf : f.form) (hkn : f ∈ kn) : ∀ y ∈ fU_ (aW_ ps) f, fX_ ps A (· ∈ kn) y := by
  intro y hy
  obtain ⟨z, hz, rfl⟩ := List.mem_map.1 hy
  obtain ⟨h1, h2, h3⟩ := pm1.1 hz
  exact .r3 h1 h2 (by rw [h3, ← kb_ hf hk]; exact hkn)
theorem nz_ (hk : f.kind = 1) (hf : f.form) (hkn : f ∈ kn) : ∀ y ∈ kD_ (aW_ ps) f, fX_ ps A (· ∈ kn) y := by
  intro y hy
  obtain ⟨z, hz, rfl⟩ := List.mem_map.1 hy
  obtain ⟨h1, h2, h3⟩ := pm3.1 hz
  exact .r5 h1 h2 (by rw [h3, ← kb_ hf hk]; exact hkn)
theorem md_ (hk : f.kind = 1) (hf : f.form) (hkn : f ∈ kn) : ∀ y ∈ (lat (aW_ ps) ⟨8, [], f.b⟩).map (fun y => aM_ f.a y.r y.lo y.hi), fX_ ps A (· ∈ kn) y := by
  intro y hy
  obtain ⟨z, hz, rfl⟩ := List.mem_map.1 hy
  obtain ⟨h1, h2, h3⟩ := pm8.1 hz
  exact .r11 h1 h2 (by rw [h3, ← kb_ hf hk]; exact hkn)
theorem ku_ (hk : f.kind = 2) (hf : f.form) (hkn : f ∈ kn) : ∀ y ∈ fR_ (aW_ ps) f, fX_ ps A (· ∈ kn) y := by
  intro y hy
  obtain ⟨z, hz, rfl⟩ := List.mem_map.1 hy
  obtain ⟨h1, h2, h3⟩ := pm5.1 hz
  exact .r6 h1 h2 (by rw [h3, ← (ic_ hf hk).1]; exact hkn)
theorem jb_ {hS : ∀ y, S y → y.form} {a r b : Str} (h : ∃ g, S g ∧ g.kind = 2 ∧ g.a = a ∧ g.r = r ∧ g.b = b) : S (aP_ a r b) := by
  obtain ⟨g, h1, h2, rfl, rfl, rfl⟩ := h
  rw [← (ic_ (hS g h1) h2).1]; exact h1
theorem ix_sub {hS : ∀ y, S y → y.form} {a b : Str} (h : ∃ g, S g ∧ g.kind = 1 ∧ g.a = a ∧ g.b = b) : S (aG_ a b) := by
  obtain ⟨g, h1, h2, rfl, rfl⟩ := h
  rw [← kb_ (hS g h1) h2]; exact h1
theorem nm_ (hx : x.of S Fm) (hS : ∀ y, S y → y.form) (hkS : ∀ y, S y → y ∈ kn) (hk : f.kind = 2) (hf : f.form) (hkn : f ∈ kn) : ∀ y ∈ eY_ (aW_ ps) x f ++ gt_ (aW_ ps) x f, fX_ ps A (· ∈ kn) y := by
  intro y hy
  obtain ⟨e, hn⟩ := ic_ hf hk
  rcases List.mem_append.1 hy with hy | hy
  · obtain ⟨z, hz, hy⟩ := List.mem_flatMap.1 hy
    obtain ⟨c, hc, rfl⟩ := List.mem_map.1 hy
    obtain ⟨h1, h2, h3⟩ := (pm6 hn).1 hz
    exact .r7 h1 h2 (by rw [h3, ← e]; exact hkn) (hkS _ (jb_ (hS := hS) ((hx.frm _ _ _).1 (da_.1 hc))))
  · obtain ⟨z, hz, hy⟩ := List.mem_flatMap.1 hy
    obtain ⟨c, hc, rfl⟩ := List.mem_map.1 hy
    obtain ⟨h1, h2, h3⟩ := (pm6' hn).1 hz
    exact .r7 h1 h2 (hkS _ (jb_ (hS := hS) ((hx.into _ _ _).1 (da_.1 hc)))) (by rw [h3, ← e]; exact hkn)
theorem ke_ (hx : x.of S Fm) (hS : ∀ y, S y → y.form) (hkS : ∀ y, S y → y ∈ kn) (hk : f.kind = 2) (hf : f.form) (hkn : f ∈ kn) : ∀ y ∈ fe_ (aW_ ps) x f, fX_ ps A (· ∈ kn) y := by
  intro y hy
  obtain ⟨e, hn⟩ := ic_ hf hk
  obtain ⟨c, hc, hy⟩ := List.mem_flatMap.1 hy
  obtain ⟨z, hz, rfl⟩ := List.mem_map.1 hy
  obtain ⟨h1, h2, h3, h4⟩ := (pm4' hn).1 hz
  exact .r8 (b := f.b) h1 h2 (by rw [h3, ← e]; exact hkn) (by rw [h4]; exact hkS _ (ix_sub (hS := hS) ((hx.above _ _).1 (da_.1 hc))))
theorem kg_ (hr : ∀ x ∈ ps, x.vok) (hx : x.of S Fm) (hS : ∀ y, S y → y.form) (hkS : ∀ y, S y → y ∈ kn) (hk : f.kind = 1) (hf : f.form) (hkn : f ∈ kn) : ∀ y ∈ ff_ (aW_ ps) x f, fX_ ps A (· ∈ kn) y := by
  intro y hy
  obtain ⟨z, hz, hy⟩ := List.mem_flatMap.1 hy
  obtain ⟨c, hc, rfl⟩ := List.mem_map.1 hy
  obtain ⟨h1, h2, h3⟩ := (pm4 (fun x hx => (hr x hx).rok)).1 hz
  exact .r8 (b := f.a) h1 h2 (hkS _ (jb_ (hS := hS) ((hx.into _ _ _).1 (da_.1 hc)))) (by rw [h3, ← kb_ hf hk]; exact hkn)
theorem iU_ (hx : x.of S Fm) (hS : ∀ y, S y → y.form) (hkS : ∀ y, S y → y ∈ kn) (hk : f.kind = 1) (hf : f.form) (hkn : f ∈ kn) : ∀ y ∈ dm_ x f, fX_ ps A (· ∈ kn) y := by
  intro y hy
  unfold dm_ at hy
  split at hy
  · rename_i hb
    obtain ⟨a, ha, rfl⟩ := List.mem_map.1 hy
    obtain ⟨g, h1, h2, h3, h4⟩ := (hx.under _ _).1 (da_.1 ha)
    exact .r9 (r := g.r) (hkS _ (jb_ (hS := hS) ⟨g, h1, h2, h3, rfl, h4⟩)) (by rw [← hb, ← kb_ hf hk]; exact hkn)
  · simp at hy
theorem iT_ (hk : f.kind = 2) (hf : f.form) (hkn : f ∈ kn) (h : aG_ f.b [33] ∈ kn) : fX_ ps A (· ∈ kn) (aG_ f.a [33]) :=
  .r9 (r := f.r) (b := f.b) (by rw [← (ic_ hf hk).1]; exact hkn) h
theorem ps_ (hk : f.kind = 3) (hf : f.form) (hkn : f ∈ kn) : ∀ y ∈ pt_ (aW_ ps) f, fX_ ps A (· ∈ kn) y := by
  intro y hy
  obtain ⟨z, hz, rfl⟩ := List.mem_map.1 hy
  obtain ⟨hz, hc⟩ := List.mem_filter.1 hz
  obtain ⟨h1, h2, h3⟩ := pm9.1 hz
  have hc := of_decide_eq_true hc
  exact .r14 h1 h2 (by rw [h3, ← (gz_ hf hk).1]; exact hkn) hc.1 hc.2
theorem iw_ (hx : x.of S Fm) {firm : Bool} {y : Fc} (hy : y ∈ em_ x f firm) : S y ∧ y.kind = 3 ∧ y.a = f.a ∧ y.r = f.r := by
  unfold em_ at hy
  split at hy
  · exact (hx.ranges _ _ _).1 (da_.1 hy)
  · have := (hx.firms _ _ _).1 (da_.1 hy)
    exact ⟨this.1, this.2.2⟩
theorem nN_ (hx : x.of S Fm) (hS : ∀ y, S y → y.form) (hkS : ∀ y, S y → y ∈ kn) (hk : f.kind = 3) (hf : f.form) (hkn : f ∈ kn) {firm : Bool} : ∀ y ∈ fu_ f (em_ x f firm) ++ gx_ f (em_ x f firm), fX_ ps A (· ∈ kn) y := by
  intro y hy
  have e := (gz_ hf hk).1
  rcases List.mem_append.1 hy with hy | hy
  · obtain ⟨z, hz, rfl⟩ := List.mem_map.1 hy
    obtain ⟨hz, hc⟩ := List.mem_filter.1 hz
    obtain ⟨h1, h2, h3, h4⟩ := iw_ hx hz
    simp only [cM_, Bool.and_eq_true, Bool.not_eq_true', decide_eq_false_iff_not, Int.not_lt] at hc
    have ez := (gz_ (hS z h1) h2).1
    rw [h3, h4] at ez
    exact .r12 (by rw [← e]; exact hkn) (by rw [← ez]; exact hkS z h1) trivial hc.1
  · unfold gx_ at hy
    split at hy
    · rename_i ha
      obtain ⟨z, hz, hc⟩ := List.any_eq_true.1 ha
      obtain ⟨h1, h2, h3, h4⟩ := iw_ hx hz
      have ez := (gz_ (hS z h1) h2).1
      rw [h3, h4] at ez
      simp only [List.mem_singleton] at hy
      subst hy
      exact .r13 (r := f.r) (by rw [← e]; exact hkn) (by rw [← ez]; exact hkS z h1) trivial (by simpa [cM_] using hc)
    · simp at hy
theorem nk_ {z : Pc} {a : Str} (hz : z ∈ ps) (hk : z.kind = 1) : aG_ a z.c ∈ fU_ (aW_ ps) (aG_ a z.a) :=
  List.mem_map.2 ⟨z, pm1.2 ⟨hz, hk, rfl⟩, rfl⟩
theorem qi_ {z : Pc} {a : Str} (hz : z ∈ ps) (hk : z.kind = 3) : aP_ a z.r z.c ∈ kD_ (aW_ ps) (aG_ a z.a) :=
  List.mem_map.2 ⟨z, pm3.2 ⟨hz, hk, rfl⟩, rfl⟩
theorem oT_ {z : Pc} {a : Str} (hz : z ∈ ps) (hk : z.kind = 8) : aM_ a z.r z.lo z.hi ∈ (lat (aW_ ps) ⟨8, [], (aG_ a z.a).b⟩).map (fun y => aM_ (aG_ a z.a).a y.r y.lo y.hi) :=
  List.mem_map.2 ⟨z, pm8.2 ⟨hz, hk, rfl⟩, rfl⟩
theorem mZ_ {z : Pc} {a b : Str} (hz : z ∈ ps) (hk : z.kind = 5) : aP_ a z.t b ∈ fR_ (aW_ ps) (aP_ a z.r b) :=
  List.mem_map.2 ⟨z, pm5.2 ⟨hz, hk, rfl⟩, rfl⟩
theorem oe_ (hx : x.of S Fm) (hr : ∀ x ∈ ps, x.vok) {z : Pc} {a b c : Str} (hz : z ∈ ps) (hk : z.kind = 6) (h : S (aP_ b z.s c)) : aP_ a z.t c ∈ eY_ (aW_ ps) x (aP_ a z.r b) :=
  List.mem_flatMap.2 ⟨z, (pm6 ((hr z hz).rok.1 (by simp [hk]))).2 ⟨hz, hk, rfl⟩, List.mem_map.2 ⟨c, da_.2 ((hx.frm _ _ _).2 ⟨_, h, rfl, rfl, rfl, rfl⟩), rfl⟩⟩
theorem od_ (hx : x.of S Fm) (hr : ∀ x ∈ ps, x.vok) {z : Pc} {a b c : Str} (hz : z ∈ ps) (hk : z.kind = 6) (h : S (aP_ a z.r b)) : aP_ a z.t c ∈ gt_ (aW_ ps) x (aP_ b z.s c) :=
  List.mem_flatMap.2 ⟨z, (pm6' ((hr z hz).rok.2.1 hk).1).2 ⟨hz, hk, rfl⟩, List.mem_map.2 ⟨a, da_.2 ((hx.into _ _ _).2 ⟨_, h, rfl, rfl, rfl, rfl⟩), rfl⟩⟩
theorem lE_ (hx : x.of S Fm) (hr : ∀ x ∈ ps, x.vok) {z : Pc} {a b : Str} (hz : z ∈ ps) (hk : z.kind = 4) (h : S (aG_ b z.a)) : aG_ a z.c ∈ fe_ (aW_ ps) x (aP_ a z.r b) :=
  List.mem_flatMap.2 ⟨z.a, da_.2 ((hx.above _ _).2 ⟨_, h, rfl, rfl, rfl⟩), List.mem_map.2 ⟨z, (pm4' ((hr z hz).rok.1 (by simp [hk]))).2 ⟨hz, hk, rfl, rfl⟩, rfl⟩⟩
theorem lF_ (hx : x.of S Fm) (hr : ∀ x ∈ ps, x.vok) {z : Pc} {a b : Str} (hz : z ∈ ps) (hk : z.kind = 4) (h : S (aP_ a z.r b)) : aG_ a z.c ∈ ff_ (aW_ ps) x (aG_ b z.a) :=
  List.mem_flatMap.2 ⟨z, (pm4 (fun x hx => (hr x hx).rok)).2 ⟨hz, hk, rfl⟩, List.mem_map.2 ⟨a, da_.2 ((hx.into _ _ _).2 ⟨_, h, rfl, rfl, rfl, rfl⟩), rfl⟩⟩
theorem kv_ (hx : x.of S Fm) {a r b : Str} (h : S (aP_ a r b)) : aG_ a [33] ∈ dm_ x (aG_ b [33]) := by
  unfold dm_
  rw [if_pos (show (aG_ b [33]).b = [33] from rfl)]
  exact List.mem_map.2 ⟨a, da_.2 ((hx.under _ _).2 ⟨_, h, rfl, rfl, rfl⟩), rfl⟩
theorem rV_ {z : Pc} {a : Str} {lo hi : Int} (hz : z ∈ ps) (hk : z.kind = 9) (h1 : z.lo ≤ lo) (h2 : hi ≤ z.hi) : aG_ a z.c ∈ pt_ (aW_ ps) (aM_ a z.r lo hi) :=
  List.mem_map.2 ⟨z, List.mem_filter.2 ⟨pm9.2 ⟨hz, hk, rfl⟩, decide_eq_true ⟨h1, h2⟩⟩, rfl⟩
theorem kN_ (hx : x.of S Fm) {firm : Bool} (hfm : firm = true ↔ Fm f) {y : Fc} (hy : S y) (hk : y.kind = 3) (ha : y.a = f.a) (hr : y.r = f.r) (hm : Fm f ∨ Fm y) : y ∈ em_ x f firm := by
  unfold em_
  cases firm with
  | true => rw [if_pos rfl]; exact da_.2 ((hx.ranges _ _ _).2 ⟨hy, hk, ha, hr⟩)
  | false =>
    rw [if_neg (by decide)]
    refine da_.2 ((hx.firms _ _ _).2 ⟨hy, hm.resolve_left (fun q => ?_), hk, ha, hr⟩)
    exact absurd (hfm.2 q) (by decide)
theorem mS_ {l : List Fc} {y : Fc} (hy : y ∈ l) :
    (max f.lo y.lo ≤ min f.hi y.hi → dz_ f y ∈ fu_ f l ∨ dz_ f y = f ∨ dz_ f y = y) ∧ (min f.hi y.hi < max f.lo y.lo → aG_ f.a [33] ∈ gx_ f l) := by
  refine ⟨fun h => ?_, fun h => ?_⟩
  · by_cases h1 : dz_ f y = f
    · exact .inr (.inl h1)
    · by_cases h2 : dz_ f y = y
      · exact .inr (.inr h2)
      · refine .inl (List.mem_map.2 ⟨y, List.mem_filter.2 ⟨hy, ?_⟩, rfl⟩)
        simp only [cM_, Bool.and_eq_true, Bool.not_eq_true', decide_eq_false_iff_not, Int.not_lt, decide_eq_true_eq]
        exact ⟨h, h1, h2⟩
  · unfold gx_
    rw [if_pos (List.any_eq_true.2 ⟨y, hy, by simpa [cM_] using h⟩)]
    simp
end
section
variable (stp : Fc → List Fc → List Fc) (kof : List Fc → List Fc) (pm : List (Ky × Pc)) (x : Ix) (f : Fc)
def rl (j : Nat) (s : List Fc × List Fc) : List Fc × List Fc :=
  if f.kind = 1 then
    (match j with
    | 0 => (emits stp (fU_ pm f) s.1, s.2)
    | 1 => (eg_ stp kof f (lat pm ⟨2, [], f.b⟩) s.1, s.2)
    | 2 => (emits stp (kD_ pm f) s.1, s.2)
    | 3 => (emits stp (ff_ pm x f) s.1, s.2)
    | 4 => (emits stp (dm_ x f) s.1, s.2)
    | _ => cq_ stp kof f (lat pm ⟨8, [], f.b⟩) s)
  else if f.kind = 2 then
    (match j with
    | 0 => (emits stp (fR_ pm f) s.1, s.2)
    | 1 => (emits stp (eY_ pm x f ++ gt_ pm x f) s.1, s.2)
    | 2 => (emits stp (fe_ pm x f) s.1, s.2)
    | _ => (if aG_ f.b [33] ∈ kof s.1 then stp (aG_ f.a [33]) s.1 else s.1, s.2))
  else
    (match j with
    | 0 => (emits stp (fu_ f (em_ x f (decide (f ∈ s.2))) ++ gx_ f (em_ x f (decide (f ∈ s.2)))) s.1, s.2)
    | _ => (emits stp (pt_ pm f) s.1, s.2))
def rls : Nat → List Fc × List Fc → List Fc × List Fc
  | 0, s => s
  | j + 1, s => rl stp kof pm x f j (rls j s)
def nrl : Nat := if f.kind = 1 then 6 else if f.kind = 2 then 4 else 2
end
structure Cmpl (ps : List Pc) (S Fm kn good : Fc → Prop) (f : Fc) : Prop where
  c3 : ∀ z a, z ∈ ps → z.kind = 1 → f = aG_ a z.a → good (aG_ a z.c)
  c4 : ∀ z a, z ∈ ps → z.kind = 2 → f = aG_ a z.a → kn (aG_ a z.b) → good (aG_ a z.c)
  c4' : ∀ z a, z ∈ ps → z.kind = 2 → f = aG_ a z.b → kn (aG_ a z.a) → good (aG_ a z.c)
  c5 : ∀ z a, z ∈ ps → z.kind = 3 → f = aG_ a z.a → good (aP_ a z.r z.c)
  c6 : ∀ z a b, z ∈ ps → z.kind = 5 → f = aP_ a z.r b → good (aP_ a z.t b)
  c7 : ∀ z a b c, z ∈ ps → z.kind = 6 → f = aP_ a z.r b → S (aP_ b z.s c) → good (aP_ a z.t c)
  c7' : ∀ z a b c, z ∈ ps → z.kind = 6 → f = aP_ b z.s c → S (aP_ a z.r b) → good (aP_ a z.t c)
  c8 : ∀ z a b, z ∈ ps → z.kind = 4 → f = aP_ a z.r b → S (aG_ b z.a) → good (aG_ a z.c)
  c8' : ∀ z a b, z ∈ ps → z.kind = 4 → f = aG_ b z.a → S (aP_ a z.r b) → good (aG_ a z.c)
  c9 : ∀ a r b, f = aP_ a r b → kn (aG_ b [33]) → good (aG_ a [33])
  c9' : ∀ a r b, f = aG_ b [33] → S (aP_ a r b) → good (aG_ a [33])
  c11 : ∀ z a, z ∈ ps → z.kind = 8 → f = aG_ a z.a → good (aM_ a z.r z.lo z.hi)
  c12 : ∀ y, f.kind = 3 → S y → y.kind = 3 → y.a = f.a → y.r = f.r → (Fm f ∨ Fm y) → max f.lo y.lo ≤ min f.hi y.hi → good (dz_ f y)
  c13 : ∀ y, f.kind = 3 → S y → y.kind = 3 → y.a = f.a → y.r = f.r → (Fm f ∨ Fm y) → min f.hi y.hi < max f.lo y.lo → good (aG_ f.a [33])
  c14 : ∀ z a lo hi, z ∈ ps → z.kind = 9 → f = aM_ a z.r lo hi → z.lo ≤ lo → hi ≤ z.hi → good (aG_ a z.c)
section
variable {stp : Fc → List Fc → List Fc} {kof : List Fc → List Fc} {ps : List Pc} {A : List Str} {x : Ix} {S Fm : Fc → Prop} {f : Fc}
theorem mv_ (hg : Grows stp kof) (j : Nat) (s : List Fc × List Fc) : ∃ L, (rl stp kof (aW_ ps) x f j s).1 = emits stp L s.1 := by
  unfold rl
  split
  · split
    · exact ⟨_, rfl⟩
    · obtain ⟨L, h, _⟩ := eL_ hg f (lat (aW_ ps) ⟨2, [], f.b⟩) s.1
      exact ⟨L, h⟩
    · exact ⟨_, rfl⟩
    · exact ⟨_, rfl⟩
    · exact ⟨_, rfl⟩
    · exact ⟨_, eC_ stp kof f _ s.1 s.2⟩
  · split
    · split
      · exact ⟨_, rfl⟩
      · exact ⟨_, rfl⟩
      · exact ⟨_, rfl⟩
      · simp only
        split
        · exact ⟨[aG_ f.a [33]], rfl⟩
        · exact ⟨[], rfl⟩
    · split
      · exact ⟨_, rfl⟩
      · exact ⟨_, rfl⟩
theorem ir_ (hg : Grows stp kof) (j : Nat) (s : List Fc × List Fc) : ∃ L, (rls stp kof (aW_ ps) x f j s).1 = emits stp L s.1 := by
  induction j with
  | zero => exact ⟨[], rfl⟩
  | succ j ih =>
    obtain ⟨L, h⟩ := ih
    obtain ⟨M, h'⟩ := mv_ (ps := ps) (x := x) (f := f) hg j (rls stp kof (aW_ ps) x f j s)
    exact ⟨L ++ M, by rw [rls, h', h, aQ_]⟩
theorem iq_ (hg : Grows stp kof) (j : Nat) (s : List Fc × List Fc) (z : Fc) (hz : z ∈ kof s.1) : z ∈ kof (rls stp kof (aW_ ps) x f j s).1 := by
  obtain ⟨L, h⟩ := ir_ (ps := ps) (x := x) (f := f) hg j s
  rw [h]; exact hg.emits L _ z hz
theorem mu_ (j : Nat) (s : List Fc × List Fc) (h : f.kind = 1 → j ≤ 5) : (rls stp kof (aW_ ps) x f j s).2 = s.2 := by
  induction j with
  | zero => rfl
  | succ j ih =>
    rw [← ih (fun hk => by have := h hk; omega), rls, rl.eq_def]
    split
    · rename_i hk
      have := h hk
      match j, this with
      | 0, _ => rfl
      | 1, _ => rfl
      | 2, _ => rfl
      | 3, _ => rfl
      | 4, _ => rfl
    · split
      · split <;> rfl
      · split <;> rfl
theorem qo_ (hg : Grows stp kof) (hr : ∀ x ∈ ps, x.vok) (hx : x.of S Fm) (s : List Fc × List Fc) (hfm : ∀ y, S y → (Fm y ↔ y ∈ s.2)) (hf : S f) (hSk : ∀ y, S y → y ∈ kof s.1) (good : Fc → Prop) (hS : ∀ y, S y → good y)
    (H : ∀ j, j < nrl f → ∀ L, (rls stp kof (aW_ ps) x f (j + 1) s).1 = emits stp L (rls stp kof (aW_ ps) x f j s).1 → ∀ y ∈ L, good y) :
    Cmpl ps S Fm (· ∈ kof s.1) good f := by
  have K : ∀ k j, f.kind = k → j < nrl f → ∀ L, (rl stp kof (aW_ ps) x f j (rls stp kof (aW_ ps) x f j s)).1 = emits stp L (rls stp kof (aW_ ps) x f j s).1 → ∀ y ∈ L, good y := fun k j _ hj L hL => H j hj L (by rw [rls]; exact hL)
  have n1 : f.kind = 1 → nrl f = 6 := fun h => by simp [nrl, h]
  have n2 : f.kind = 2 → nrl f = 4 := fun h => by simp [nrl, h]
  have n3 : f.kind = 3 → nrl f = 2 := fun h => by simp [nrl, h]
  have k1 : ∀ {a b}, f = aG_ a b → f.kind = 1 := fun e => by rw [e]; rfl
  have k2 : ∀ {a r b}, f = aP_ a r b → f.kind = 2 := fun e => by rw [e]; rfl
  have k3 : ∀ {a r lo hi}, f = aM_ a r lo hi → f.kind = 3 := fun e => by rw [e]; rfl
  have both : ∀ z a, z ∈ ps → z.kind = 2 → f.kind = 1 → f.a = a → (z.a = f.b ∨ z.b = f.b) → aG_ a z.a ∈ kof s.1 → aG_ a z.b ∈ kof s.1 → good (aG_ a z.c) := by
    intro z a hz hk h1 ha hb g1 g2
    subst ha
    obtain ⟨L, e1, e2, e3⟩ := eL_ hg f (lat (aW_ ps) ⟨2, [], f.b⟩) (rls stp kof (aW_ ps) x f 1 s).1
    exact K 1 1 h1 (by rw [n1 h1]; decide) L (by rw [rl.eq_def, if_pos h1]; exact e1) _ (e3 z (pm2.2 ⟨hz, hk, hb⟩) (iq_ hg 1 s _ g1) (iq_ hg 1 s _ g2))
  have mt : f.kind = 3 → (∀ y ∈ fu_ f (em_ x f (decide (f ∈ s.2))) ++ gx_ f (em_ x f (decide (f ∈ s.2))), good y) := fun h3 =>
    K 3 0 h3 (by rw [n3 h3]; decide) _ (by rw [rl.eq_def, if_neg (by rw [h3]; decide), if_neg (by rw [h3]; decide)]; rfl)
  have hfirm : decide (f ∈ s.2) = true ↔ Fm f := by rw [decide_eq_true_eq]; exact (hfm f hf).symm
  refine ⟨?_, ?_, ?_, ?_, ?_, ?_, ?_, ?_, ?_, ?_, ?_, ?_, ?_, ?_, ?_⟩
  · intro z a hz hk e
    have h1 := k1 e
    exact K 1 0 h1 (by rw [n1 h1]; decide) (fU_ (aW_ ps) f) (by rw [rl.eq_def, if_pos h1] <;> rfl) _ (by rw [e]; exact nk_ hz hk)
  · intro z a hz hk e h
    have h1 := k1 e
    exact both z a hz hk h1 (by rw [e]; rfl) (by rw [e]; exact .inl rfl) (by rw [← e]; exact hSk f hf) h
  · intro z a hz hk e h
    have h1 := k1 e
    exact both z a hz hk h1 (by rw [e]; rfl) (by rw [e]; exact .inr rfl) h (by rw [← e]; exact hSk f hf)
  · intro z a hz hk e
    have h1 := k1 e
    exact K 1 2 h1 (by rw [n1 h1]; decide) (kD_ (aW_ ps) f) (by rw [rl.eq_def, if_pos h1] <;> rfl) _ (by rw [e]; exact qi_ hz hk)
  · intro z a b hz hk e
    have h1 := k2 e
    exact K 2 0 h1 (by rw [n2 h1]; decide) (fR_ (aW_ ps) f) (by rw [rl.eq_def, if_neg (by rw [h1]; decide), if_pos h1] <;> rfl) _ (by rw [e]; exact mZ_ hz hk)
  · intro z a b c hz hk e h
    have h1 := k2 e
    exact K 2 1 h1 (by rw [n2 h1]; decide) (eY_ (aW_ ps) x f ++ gt_ (aW_ ps) x f) (by rw [rl.eq_def, if_neg (by rw [h1]; decide), if_pos h1] <;> rfl) _ (List.mem_append_left _ (by rw [e]; exact oe_ hx hr hz hk h))
  · intro z a b c hz hk e h
    have h1 := k2 e
    exact K 2 1 h1 (by rw [n2 h1]; decide) (eY_ (aW_ ps) x f ++ gt_ (aW_ ps) x f) (by rw [rl.eq_def, if_neg (by rw [h1]; decide), if_pos h1] <;> rfl) _ (List.mem_append_right _ (by rw [e]; exact od_ hx hr hz hk h))
  · intro z a b hz hk e h
    have h1 := k2 e
    exact K 2 2 h1 (by rw [n2 h1]; decide) (fe_ (aW_ ps) x f) (by rw [rl.eq_def, if_neg (by rw [h1]; decide), if_pos h1] <;> rfl) _ (by rw [e]; exact lE_ hx hr hz hk h)
  · intro z a b hz hk e h
    have h1 := k1 e
    exact K 1 3 h1 (by rw [n1 h1]; decide) (ff_ (aW_ ps) x f) (by rw [rl.eq_def, if_pos h1] <;> rfl) _ (by rw [e]; exact lF_ hx hr hz hk h)
  · intro a r b e h
    have h1 := k2 e
    have e1 : aG_ f.b [33] ∈ kof (rls stp kof (aW_ ps) x f 3 s).1 := iq_ hg 3 s _ (by rw [e]; exact h)
    exact K 2 3 h1 (by rw [n2 h1]; decide) [aG_ f.a [33]] (by rw [rl.eq_def, if_neg (by rw [h1]; decide), if_pos h1]; simp only [if_pos e1]; rfl) _ (by rw [e]; simp [aP_])
  · intro a r b e h
    have h1 := k1 e
    exact K 1 4 h1 (by rw [n1 h1]; decide) (dm_ x f) (by rw [rl.eq_def, if_pos h1] <;> rfl) _ (by rw [e]; exact kv_ hx h)
  · intro z a hz hk e
    have h1 := k1 e
    exact K 1 5 h1 (by rw [n1 h1]; decide) ((lat (aW_ ps) ⟨8, [], f.b⟩).map fun y => aM_ f.a y.r y.lo y.hi) (by rw [rl.eq_def, if_pos h1]; exact eC_ stp kof f _ _ _) _ (by rw [e]; exact oT_ hz hk)
  · intro y h3 hy hk ha hr' hm hl
    have hmem := kN_ hx hfirm hy hk ha hr' hm
    rcases (mS_ (f := f) hmem).1 hl with q | q | q
    · exact mt h3 _ (List.mem_append_left _ q)
    · rw [q]; exact hS f hf
    · rw [q]; exact hS y hy
  · intro y h3 hy hk ha hr' hm hl
    have hmem := kN_ hx hfirm hy hk ha hr' hm
    exact mt h3 _ (List.mem_append_right _ ((mS_ (f := f) hmem).2 hl))
  · intro z a lo hi hz hk e g1 g2
    have h1 := k3 e
    exact K 3 1 h1 (by rw [n3 h1]; decide) (pt_ (aW_ ps) f) (by rw [rl.eq_def, if_neg (by rw [h1]; decide), if_neg (by rw [h1]; decide)] <;> rfl) _ (by rw [e]; exact rV_ hz hk g1 g2)
end
end Go.Vs
namespace Go.Vs
open Go Go.Sx
def bx_ (m : Nat) (y : Fc) (q : List Fc) : List Fc := if q.length ≤ m ∧ y ∉ q then q ++ [y] else q
abbrev idk : List Fc → List Fc := fun q => q
theorem mh_ (m : Nat) (y : Fc) (q : List Fc) : ∃ t, bx_ m y q = q ++ t := by
  unfold bx_; split
  · exact ⟨[y], rfl⟩
  · exact ⟨[], by simp⟩
theorem ij_ (m : Nat) : ∀ (L q : List Fc), ∃ t, emits (bx_ m) L q = q ++ t
  | [], q => ⟨[], by simp [emits]⟩
  | y :: L, q => by
    obtain ⟨t, h⟩ := mh_ m y q
    obtain ⟨u, h'⟩ := ij_ m L (bx_ m y q)
    exact ⟨t ++ u, by rw [← List.append_assoc, ← h, ← h']; rfl⟩
theorem eR_ (m : Nat) : Grows (bx_ m) idk := ⟨fun y s z hz => by obtain ⟨t, h⟩ := mh_ m y s; rw [h]; exact List.mem_append_left _ hz⟩
theorem fz_ (m : Nat) : ∀ (L q : List Fc) (z : Fc), z ∈ emits (bx_ m) L q → z ∈ q ∨ z ∈ L
  | [], q, z, h => .inl h
  | y :: L, q, z, h => by
    rcases fz_ m L (bx_ m y q) z h with h | h
    · unfold bx_ at h
      split at h
      · rcases List.mem_append.1 h with h | h
        · exact .inl h
        · exact .inr (by simp at h; simp [h])
      · exact .inl h
    · exact .inr (List.mem_cons_of_mem _ h)
theorem hk_ (m : Nat) : ∀ (L q : List Fc), q.Nodup → (emits (bx_ m) L q).Nodup
  | [], q, h => h
  | y :: L, q, h => by
    refine hk_ m L (bx_ m y q) ?_
    unfold bx_
    split
    · rename_i hc
      rw [List.nodup_append]
      exact ⟨h, by simp, fun a ha b hb e => by simp at hb; subst hb; subst e; exact hc.2 ha⟩
    · exact h
theorem lH_ (m : Nat) : ∀ (L q : List Fc), q.length ≤ m + 1 → (emits (bx_ m) L q).length ≤ m + 1
  | [], q, h => h
  | y :: L, q, h => by
    refine lH_ m L (bx_ m y q) ?_
    unfold bx_
    split
    · rename_i hc; simp; exact hc.1
    · exact h
theorem hl_ (m : Nat) : ∀ (L q : List Fc), (emits (bx_ m) L q).length ≤ m → ∀ y ∈ L, y ∈ emits (bx_ m) L q
  | [], q, _, y, hy => by simp at hy
  | x :: L, q, h, y, hy => by
    have e : emits (bx_ m) (x :: L) q = emits (bx_ m) L (bx_ m x q) := rfl
    rw [e] at h ⊢
    rcases List.mem_cons.1 hy with rfl | hy
    · obtain ⟨t, ht⟩ := ij_ m L (bx_ m y q)
      rw [ht] at h ⊢
      refine List.mem_append_left _ ?_
      have hl : (bx_ m y q).length ≤ m := by rw [List.length_append] at h; omega
      unfold bx_ at hl ⊢
      split
      · simp
      · rename_i hc
        rw [if_neg hc] at hl
        exact Classical.byContradiction fun hn => hc ⟨hl, hn⟩
    · exact hl_ m L _ h y hy
theorem iP_ {ps : List Pc} {A : List Str} {m : Nat} {f : Fc} : ∀ (l : List Pc) (s : List Fc), (∀ z ∈ l, z ∈ ps ∧ z.kind = 2) → (∀ y ∈ s, Der ps A y) → ∀ y ∈ eg_ (bx_ m) idk f l s, Der ps A y
  | [], s, _, hs, y, hy => hs y hy
  | z :: l, s, hl, hs, y, hy => by
    have hz := hl z (by simp)
    simp only [eg_, List.foldl_cons] at hy
    refine iP_ l _ (fun z hz => hl z (by simp [hz])) (fun y hy => ?_) y hy
    split at hy
    · rename_i hc
      have := fz_ m [aG_ f.a z.c] s y hy
      rcases this with h | h
      · exact hs y h
      · simp at h; subst h
        exact Der.step (.r4 hz.1 hz.2 (hs _ hc.1) (hs _ hc.2))
    · exact hs y hy
section
variable {ps : List Pc} {A : List Str} {m : Nat} {x : Ix} {S Fm : Fc → Prop} {f : Fc}
theorem pd_ (hr : ∀ x ∈ ps, x.vok) (hx : x.of S Fm) (hS : ∀ y, S y → y.form) (hk : f.kind = 1 ∨ f.kind = 2 ∨ f.kind = 3) (hf : f.form) (j : Nat) (s : List Fc × List Fc) (hSs : ∀ y, S y → y ∈ s.1) (hfs : f ∈ s.1) (hs : ∀ y ∈ s.1, Der ps A y) :
    ∀ y ∈ (rl (bx_ m) idk (aW_ ps) x f j s).1, Der ps A y := by
  have E : ∀ L, (∀ y ∈ L, fX_ ps A (· ∈ s.1) y) → ∀ y ∈ emits (bx_ m) L s.1, Der ps A y := fun L hL y hy => by
    rcases fz_ m L s.1 y hy with h | h
    · exact hs y h
    · exact Der.step ((hL y h).mono (fun x hx => ⟨x, hx, x.frm, rfl⟩) (fun _ h => h) hs (fun _ _ h => h))
  unfold rl
  split
  · rename_i h1
    split
    · exact E _ (kw_ h1 hf hfs)
    · exact iP_ _ s.1 (fun z hz => by have := pm2.1 hz; exact ⟨this.1, this.2.1⟩) hs
    · exact E _ (nz_ h1 hf hfs)
    · exact E _ (kg_ hr hx hS hSs h1 hf hfs)
    · exact E _ (iU_ hx hS hSs h1 hf hfs)
    · rw [eC_]; exact E _ (md_ h1 hf hfs)
  · split
    · rename_i h2
      split
      · exact E _ (ku_ h2 hf hfs)
      · exact E _ (nm_ hx hS hSs h2 hf hfs)
      · exact E _ (ke_ hx hS hSs h2 hf hfs)
      · simp only
        split
        · rename_i hc
          exact E [aG_ f.a [33]] (fun y hy => by simp at hy; subst hy; exact iT_ h2 hf hfs hc)
        · exact hs
    · rename_i h1 h2
      have h3 : f.kind = 3 := by omega
      split
      · exact E _ (nN_ hx hS hSs h3 hf hfs)
      · exact E _ (ps_ h3 hf hfs)
theorem js_ (hr : ∀ x ∈ ps, x.vok) (hx : x.of S Fm) (hS : ∀ y, S y → y.form) (hf : f.form) (s : List Fc × List Fc) (hSs : ∀ y, S y → y ∈ s.1) (hfs : f ∈ s.1) (hs : ∀ y ∈ s.1, Der ps A y) (j : Nat) :
    ∀ y ∈ (rls (bx_ m) idk (aW_ ps) x f j s).1, Der ps A y := by
  induction j with
  | zero => exact hs
  | succ j ih => exact pd_ hr hx hS (hi_ hf) hf j _ (fun y hy => iq_ (eR_ m) j s y (hSs y hy)) (iq_ (eR_ m) j s f hfs) ih
end
inductive Fmd (fm : List Fc) : Fc → Prop
  | base {y : Fc} (h : y ∈ fm) : Fmd fm y
  | meet {y z : Fc} (hy : Fmd fm y) (hz : Fmd fm z) (ha : z.a = y.a) (hr : z.r = y.r) (hl : max y.lo z.lo ≤ min y.hi z.hi) : Fmd fm (dz_ y z)
theorem Fmd.mono {fm fm' : List Fc} (h : ∀ y ∈ fm, y ∈ fm') {y : Fc} (hy : Fmd fm y) : Fmd fm' y := by
  induction hy with
  | base h1 => exact .base (h _ h1)
  | meet _ _ ha hr hl ih1 ih2 => exact .meet ih1 ih2 ha hr hl
structure InvA (ps : List Pc) (A : List Str) (m n : Nat) (q fm : List Fc) (x : Ix) : Prop where
  nd : q.Nodup
  len : q.length ≤ m
  le : n ≤ q.length
  der : ∀ y ∈ q, Der ps A y
  form : ∀ y ∈ q, y.form
  ix : x.of (· ∈ q.take n) (· ∈ fm)
  fmq : ∀ y ∈ fm, y ∈ q ∧ y.kind = 3
  firm : ∀ y ∈ q, y.kind = 3 → Fmd fm y
  st : ∀ a ∈ A, aG_ a a ∈ q ∧ aG_ a [42] ∈ q ∧ ∀ z ∈ ps, z.kind = 7 → aP_ a z.r a ∈ q
  cl : ∀ y, One ps A (· ∈ q.take n) (fun y z => y ∈ fm ∨ z ∈ fm) y → y ∈ q
theorem Der.form {p : List Pc} {A : List Str} (hp : ∀ x ∈ p, x.vok) {y : Fc} (h : Der p A y) : y.form := h _ fun _ hz => One.form hp (fun _ h => h) hz
theorem iF_ {stp : Fc → List Fc → List Fc} {kof : List Fc → List Fc} (hk : ∀ i s z, z ∈ kof (stp i s) → z ∈ kof s ∨ z = i) (h : Grows stp kof) (f : Fc) : ∀ (l : List Pc) (s fm : List Fc), ∀ y ∈ l, aM_ f.a y.r y.lo y.hi ∈ kof s ∨ aM_ f.a y.r y.lo y.hi ∈ (cq_ stp kof f l (s, fm)).2
  | [], s, fm, y, hy => by simp at hy
  | x :: l, s, fm, y, hy => by
    have e : cq_ stp kof f (x :: l) (s, fm) = cq_ stp kof f l (stp (aM_ f.a x.r x.lo x.hi) s, if aM_ f.a x.r x.lo x.hi ∈ kof s then fm else aM_ f.a x.r x.lo x.hi :: fm) := rfl
    rw [e]
    by_cases he : aM_ f.a y.r y.lo y.hi = aM_ f.a x.r x.lo x.hi
    · rw [he]
      by_cases hc : aM_ f.a x.r x.lo x.hi ∈ kof s
      · exact .inl hc
      · refine .inr ((gd_ h f l _ _ _).2 (.inl ?_))
        rw [if_neg hc]; simp
    · rcases List.mem_cons.1 hy with rfl | hy
      · exact absurd rfl he
      · rcases iF_ hk h f l (stp (aM_ f.a x.r x.lo x.hi) s) (if aM_ f.a x.r x.lo x.hi ∈ kof s then fm else aM_ f.a x.r x.lo x.hi :: fm) y hy with h1 | h1
        · exact (hk _ _ _ h1).imp id fun q => absurd q he
        · exact .inr h1
theorem qb_ {q : List Fc} {n : Nat} {f z : Fc} (hn : q[n]? = some f) : z ∈ q.take (n + 1) ↔ z ∈ q.take n ∨ z = f := by
  rw [List.take_add_one, hn]; simp
theorem sm_ {ps : List Pc} {A : List Str} {S Fm kn good : Fc → Prop} {f : Fc} (hc : Cmpl ps (fun y => S y ∨ y = f) Fm kn good f) (hkn : ∀ y, S y ∨ y = f → kn y) (h : ∀ y, One ps A S (fun y z => Fm y ∨ Fm z) y → good y) (y : Fc) (hy : One ps A (fun y => S y ∨ y = f) (fun y z => Fm y ∨ Fm z) y) : good y := by
  cases hy with
  | r1 h1 => exact h _ (.r1 h1)
  | r2 h1 => exact h _ (.r2 h1)
  | r10 hx hk h1 => exact h _ (.r10 hx hk h1)
  | r3 hx hk h1 => exact h1.elim (fun q => h _ (.r3 hx hk q)) (fun q => hc.c3 _ _ hx hk q.symm)
  | r4 hx hk h1 h2 =>
    rcases h1 with h1 | h1
    · rcases h2 with h2 | h2
      · exact h _ (.r4 hx hk h1 h2)
      · exact hc.c4' _ _ hx hk h2.symm (hkn _ (.inl h1))
    · exact hc.c4 _ _ hx hk h1.symm (hkn _ h2)
  | r5 hx hk h1 => exact h1.elim (fun q => h _ (.r5 hx hk q)) (fun q => hc.c5 _ _ hx hk q.symm)
  | r6 hx hk h1 => exact h1.elim (fun q => h _ (.r6 hx hk q)) (fun q => hc.c6 _ _ _ hx hk q.symm)
  | r7 hx hk h1 h2 =>
    rcases h1 with h1 | h1
    · rcases h2 with h2 | h2
      · exact h _ (.r7 hx hk h1 h2)
      · exact hc.c7' _ _ _ _ hx hk h2.symm (.inl h1)
    · exact hc.c7 _ _ _ _ hx hk h1.symm h2
  | r8 hx hk h1 h2 =>
    rcases h1 with h1 | h1
    · rcases h2 with h2 | h2
      · exact h _ (.r8 hx hk h1 h2)
      · exact hc.c8' _ _ _ hx hk h2.symm (.inl h1)
    · exact hc.c8 _ _ _ hx hk h1.symm h2
  | r9 h1 h2 =>
    rcases h1 with h1 | h1
    · rcases h2 with h2 | h2
      · exact h _ (.r9 h1 h2)
      · exact hc.c9' _ _ _ h2.symm (.inl h1)
    · exact hc.c9 _ _ _ h1.symm (hkn _ h2)
  | r11 hx hk h1 => exact h1.elim (fun q => h _ (.r11 hx hk q)) (fun q => hc.c11 _ _ hx hk q.symm)
  | @r12 a r lo hi lo' hi' h1 h2 hm hl =>
    rcases h1 with h1 | h1
    · rcases h2 with h2 | h2
      · exact h _ (.r12 h1 h2 hm hl)
      · have := hc.c12 (aM_ a r lo hi) (by rw [← h2]; rfl) (.inl h1) rfl (by rw [← h2]; rfl) (by rw [← h2]; rfl) (by rw [← h2]; exact hm.symm) (by rw [← h2]; simp only [aM_]; omega)
        rw [← h2] at this
        rw [Int.max_comm, Int.min_comm]; exact this
    · have := hc.c12 (aM_ a r lo' hi') (by rw [← h1]; rfl) h2 rfl (by rw [← h1]; rfl) (by rw [← h1]; rfl) (by rw [← h1]; exact hm) (by rw [← h1]; exact hl)
      rw [← h1] at this
      exact this
  | @r13 a r lo hi lo' hi' h1 h2 hm hl =>
    rcases h1 with h1 | h1
    · rcases h2 with h2 | h2
      · exact h _ (.r13 h1 h2 hm hl)
      · have := hc.c13 (aM_ a r lo hi) (by rw [← h2]; rfl) (.inl h1) rfl (by rw [← h2]; rfl) (by rw [← h2]; rfl) (by rw [← h2]; exact hm.symm) (by rw [← h2]; simp only [aM_]; omega)
        rw [← h2] at this
        exact this
    · have := hc.c13 (aM_ a r lo' hi') (by rw [← h1]; rfl) h2 rfl (by rw [← h1]; rfl) (by rw [← h1]; rfl) (by rw [← h1]; exact hm) (by rw [← h1]; exact hl)
      rw [← h1] at this
      exact this
  | r14 hx hk h1 g1 g2 => exact h1.elim (fun q => h _ (.r14 hx hk q g1 g2)) (fun q => hc.c14 _ _ _ _ hx hk q.symm g1 g2)
theorem One.congrM {p : List Pc} {A : List Str} {S : Fc → Prop} {M M' : Fc → Fc → Prop} (hM : ∀ y z, S y → S z → M y z → M' y z) {y : Fc} (h : One p A S M y) : One p A S M' y := by
  cases h with
  | r1 h => exact .r1 h
  | r2 h => exact .r2 h
  | r10 hx hk h => exact .r10 hx hk h
  | r3 hx hk h => exact .r3 hx hk h
  | r4 hx hk h h' => exact .r4 hx hk h h'
  | r5 hx hk h => exact .r5 hx hk h
  | r6 hx hk h => exact .r6 hx hk h
  | r7 hx hk h h' => exact .r7 hx hk h h'
  | r8 hx hk h h' => exact .r8 hx hk h h'
  | r9 h h' => exact .r9 h h'
  | r11 hx hk h => exact .r11 hx hk h
  | r12 h h' hm hl => exact .r12 h h' (hM _ _ h h' hm) hl
  | r13 h h' hm hl => exact .r13 h h' (hM _ _ h h' hm) hl
  | r14 hx hk h h1 h2 => exact .r14 hx hk h h1 h2
section
variable {ps : List Pc} {A : List Str} {m n : Nat} {q fm : List Fc} {x : Ix} {f : Fc}
theorem qp_ (j k : Nat) (s : List Fc × List Fc) : ∃ t, (rls (bx_ m) idk (aW_ ps) x f (j + k) s).1 = (rls (bx_ m) idk (aW_ ps) x f j s).1 ++ t := by
  induction k with
  | zero => exact ⟨[], by simp⟩
  | succ k ih =>
    obtain ⟨t, h⟩ := ih
    obtain ⟨L, h'⟩ := mv_ (ps := ps) (x := x) (f := f) (eR_ m) (j + k) (rls (bx_ m) idk (aW_ ps) x f (j + k) s)
    obtain ⟨u, h''⟩ := ij_ m L (rls (bx_ m) idk (aW_ ps) x f (j + k) s).1
    exact ⟨t ++ u, by rw [← Nat.add_assoc, rls, h', h'', h, List.append_assoc]⟩
theorem mw_ (j : Nat) (s : List Fc × List Fc) (h : f.kind = 1 → j ≤ 4) (h3 : f.kind = 3 → j ≠ 0) (hk : f.kind = 1 ∨ f.kind = 2 ∨ f.kind = 3) : ∀ y ∈ (rl (bx_ m) idk (aW_ ps) x f j s).1, y.kind = 3 → y ∈ s.1 := by
  have E : ∀ L : List Fc, (∀ y ∈ L, y.kind ≠ 3) → ∀ y ∈ emits (bx_ m) L s.1, y.kind = 3 → y ∈ s.1 := fun L hL y hy hk =>
    (fz_ m L s.1 y hy).elim id fun q => absurd hk (hL y q)
  have mp : ∀ {α : Type} (l : List α) (g : α → Fc), (∀ a, (g a).kind ≠ 3) → ∀ y ∈ l.map g, y.kind ≠ 3 := fun l g hg y hy => by
    obtain ⟨a, _, rfl⟩ := List.mem_map.1 hy; exact hg a
  have fmp : ∀ {α β : Type} (l : List α) (k : α → List β) (g : α → β → Fc), (∀ a b, (g a b).kind ≠ 3) → ∀ y ∈ l.flatMap (fun a => (k a).map (g a)), y.kind ≠ 3 := fun l k g hg y hy => by
    obtain ⟨a, _, hy⟩ := List.mem_flatMap.1 hy
    exact mp _ _ (hg a) y hy
  unfold rl
  split
  · rename_i h1
    split
    · exact E _ (mp _ _ fun _ => by simp [aG_])
    · obtain ⟨L, e1, e2, _⟩ := eL_ (eR_ m) f (lat (aW_ ps) ⟨2, [], f.b⟩) s.1
      rw [e1]
      exact E L fun y hy => by obtain ⟨_, _, rfl, _⟩ := e2 y hy; simp [aG_]
    · exact E _ (mp _ _ fun _ => by simp [aP_])
    · exact E _ (fmp _ _ _ fun _ _ => by simp [aG_])
    · refine E _ fun y hy => ?_
      unfold dm_ at hy
      split at hy
      · exact mp _ _ (fun _ => by simp [aG_]) y hy
      · simp at hy
    · have := h h1
      rename_i a1 a2 a3 a4 a5
      have hj : j = 0 ∨ j = 1 ∨ j = 2 ∨ j = 3 ∨ j = 4 := by omega
      rcases hj with hj | hj | hj | hj | hj
      · exact (a1 hj).elim
      · exact (a2 hj).elim
      · exact (a3 hj).elim
      · exact (a4 hj).elim
      · exact (a5 hj).elim
  · split
    · split
      · exact E _ (mp _ _ fun _ => by simp [aP_])
      · refine E _ fun y hy => ?_
        rcases List.mem_append.1 hy with hy | hy
        · exact fmp _ _ _ (fun _ _ => by simp [aP_]) y hy
        · exact fmp _ _ _ (fun _ _ => by simp [aP_]) y hy
      · exact E _ (fmp _ _ _ fun _ _ => by simp [aG_])
      · simp only
        split
        · exact E [aG_ f.a [33]] (by simp [aG_])
        · exact fun y hy _ => hy
    · rename_i h1 h2
      split
      · exact absurd rfl (h3 (by omega))
      · exact E _ (mp _ _ fun _ => by simp [aG_])
theorem kG_ (j : Nat) (s : List Fc × List Fc) (h : f.kind = 1 → j ≤ 5) (h3 : f.kind ≠ 3) (hk : f.kind = 1 ∨ f.kind = 2 ∨ f.kind = 3) : ∀ y ∈ (rls (bx_ m) idk (aW_ ps) x f j s).1, y.kind = 3 → y ∈ s.1 := by
  induction j with
  | zero => exact fun y hy _ => hy
  | succ j ih => exact fun y hy hk3 => ih (fun hh => by have := h hh; omega) y (mw_ j _ (fun hh => by have := h hh; omega) (fun hh => absurd hh h3) hk y hy hk3) hk3
theorem qR_ (hr : ∀ x ∈ ps, x.vok) (inv : InvA ps A m n q fm x) (hn : q[n]? = some f) {s' : List Fc × List Fc} (hs : rls (bx_ m) idk (aW_ ps) (x.add (decide (f ∈ fm)) f) f (nrl f) (q, fm) = s') (hl : s'.1.length ≤ m) :
    InvA ps A m (n + 1) s'.1 s'.2 (x.add (decide (f ∈ fm)) f) := by
  have hfq : f ∈ q := List.mem_of_getElem? hn
  have hlt : n < q.length := (List.getElem?_eq_some_iff.1 hn).1
  have hform := inv.form f hfq
  have hk := hi_ hform
  have hx' : (x.add (decide (f ∈ fm)) f).of (fun y => y ∈ q.take n ∨ y = f) (· ∈ fm) := Ix.of_add inv.ix f (by simp)
  have hSq : ∀ y, (y ∈ q.take n ∨ y = f) → y ∈ q := fun y hy => hy.elim (fun h => List.mem_of_mem_take h) (fun h => h ▸ hfq)
  obtain ⟨L, hL⟩ := ir_ (ps := ps) (x := x.add (decide (f ∈ fm)) f) (f := f) (eR_ m) (nrl f) (q, fm)
  rw [hs] at hL
  obtain ⟨t, ht⟩ := ij_ m L q
  have hpre : s'.1 = q ++ t := by rw [hL]; exact ht
  have hsub : ∀ y ∈ q, y ∈ s'.1 := fun y hy => by rw [hpre]; exact List.mem_append_left _ hy
  have htake : s'.1.take (n + 1) = q.take (n + 1) := by rw [hpre, List.take_append_of_le_length (by omega)]
  have hmem : ∀ y, y ∈ s'.1.take (n + 1) ↔ (y ∈ q.take n ∨ y = f) := fun y => by rw [htake]; exact qb_ hn
  have hder : ∀ y ∈ s'.1, Der ps A y := by rw [← hs]; exact js_ hr hx' (fun y hy => inv.form y (hSq y hy)) hform (q, fm) hSq hfq inv.der (nrl f)
  have H : ∀ j, j < nrl f → ∀ L, (rls (bx_ m) idk (aW_ ps) (x.add (decide (f ∈ fm)) f) f (j + 1) (q, fm)).1 = emits (bx_ m) L (rls (bx_ m) idk (aW_ ps) (x.add (decide (f ∈ fm)) f) f j (q, fm)).1 → ∀ y ∈ L, y ∈ s'.1 := by
    intro j hj L hL y hy
    obtain ⟨u, hu⟩ := qp_ (m := m) (ps := ps) (x := x.add (decide (f ∈ fm)) f) (f := f) (j + 1) (nrl f - (j + 1)) (q, fm)
    rw [show j + 1 + (nrl f - (j + 1)) = nrl f by omega, hs] at hu
    have hle : (rls (bx_ m) idk (aW_ ps) (x.add (decide (f ∈ fm)) f) f (j + 1) (q, fm)).1.length ≤ m := by rw [hu, List.length_append] at hl; omega
    rw [hL] at hle
    have := hl_ m L _ hle y hy
    rw [hu, hL]
    exact List.mem_append_left _ this
  have hc := qo_ (eR_ m) hr hx' (q, fm) (fun _ _ => Iff.rfl) (.inr rfl) hSq (· ∈ s'.1) (fun y hy => hsub y (hSq y hy)) H
  -- the firm ones
  have hfm : (∀ y ∈ fm, y ∈ s'.2) ∧ (∀ y ∈ s'.2, y ∈ fm ∨ (y ∉ q ∧ y ∈ s'.1 ∧ y.kind = 3)) ∧ (∀ y ∈ s'.1, y.kind = 3 → y ∈ q ∨ y ∈ s'.2 ∨ ∃ z, (z ∈ q.take n ∨ z = f) ∧ z.kind = 3 ∧ f.kind = 3 ∧ z.a = f.a ∧ z.r = f.r ∧ max f.lo z.lo ≤ min f.hi z.hi ∧ y = dz_ f z) := by
    by_cases h1 : f.kind = 1
    · have e6 : nrl f = 5 + 1 := by simp [nrl, h1]
      rw [e6, rls] at hs
      have hf5 : (rls (bx_ m) idk (aW_ ps) (x.add (decide (f ∈ fm)) f) f 5 (q, fm)).2 = fm := mu_ 5 (q, fm) (fun _ => Nat.le_refl _)
      have hk5 := kG_ (m := m) (ps := ps) (x := x.add (decide (f ∈ fm)) f) (f := f) 5 (q, fm) (fun _ => Nat.le_refl _) (by omega) hk
      have hq5 : ∀ y ∈ q, y ∈ (rls (bx_ m) idk (aW_ ps) (x.add (decide (f ∈ fm)) f) f 5 (q, fm)).1 := fun y hy => iq_ (eR_ m) 5 (q, fm) y hy
      have H5 := H 5 (by omega)
      rw [rls] at H5
      generalize rls (bx_ m) idk (aW_ ps) (x.add (decide (f ∈ fm)) f) f 5 (q, fm) = s5 at hs hf5 hk5 hq5 H5
      have er : rl (bx_ m) idk (aW_ ps) (x.add (decide (f ∈ fm)) f) f 5 s5 = cq_ (bx_ m) idk f (lat (aW_ ps) ⟨8, [], f.b⟩) s5 := by rw [rl.eq_def, if_pos h1] <;> rfl
      rw [er] at hs H5
      have es5 : s5 = (s5.1, fm) := by rw [← hf5]
      rw [es5] at hs H5
      have Hv := H5 _ (eC_ (bx_ m) idk f _ s5.1 fm)
      refine ⟨fun y hy => ?_, fun y hy => ?_, fun y hy hy3 => ?_⟩
      · rw [← hs]; exact (gd_ (eR_ m) f _ _ _ _).2 (.inl hy)
      · rw [← hs] at hy
        rcases (gd_ (eR_ m) f _ _ _ _).1 hy with h | h
        · exact .inl h
        · rcases jk_ f _ _ _ _ h.2 with g | ⟨z, hz, rfl⟩
          · exact .inl g
          · exact .inr ⟨fun hq => h.1 (hq5 _ hq), Hv _ (List.mem_map.2 ⟨z, hz, rfl⟩), rfl⟩
      · have hy' := hy
        rw [← hs, eC_] at hy
        rcases fz_ m _ _ y hy with h | h
        · exact .inl (hk5 y h hy3)
        · obtain ⟨z, hz, rfl⟩ := List.mem_map.1 h
          rcases iF_ (stp := bx_ m) (kof := idk) (fun i s z hz => (fz_ m [i] s z hz).imp id (by simp)) (eR_ m) f _ s5.1 fm z hz with g | g
          · exact .inl (hk5 _ g rfl)
          · exact .inr (.inl (by rw [← hs]; exact g))
    · have hf2 : s'.2 = fm := by rw [← hs]; exact mu_ _ (q, fm) (fun h => absurd h h1)
      refine ⟨fun y hy => by rw [hf2]; exact hy, fun y hy => .inl (by rw [← hf2]; exact hy), fun y hy hy3 => ?_⟩
      by_cases h3 : f.kind = 3
      · have e2 : nrl f = 0 + 1 + 1 := by simp [nrl, h3]
        rw [e2, rls] at hs
        rw [← hs] at hy
        have hy1 := mw_ 1 _ (fun h => absurd h h1) (fun _ => by decide) hk y hy hy3
        rw [rls, rl.eq_def, if_neg h1, if_neg (by omega)] at hy1
        rcases fz_ m _ _ y hy1 with h | h
        · exact .inl h
        · rcases List.mem_append.1 h with h | h
          · obtain ⟨z, hz, rfl⟩ := List.mem_map.1 h
            obtain ⟨hz, hcc⟩ := List.mem_filter.1 hz
            obtain ⟨g1, g2, g3, g4⟩ := iw_ hx' hz
            simp only [cM_, Bool.and_eq_true, Bool.not_eq_true', decide_eq_false_iff_not, Int.not_lt] at hcc
            exact .inr (.inr ⟨z, g1, g2, h3, g3, g4, hcc.1, rfl⟩)
          · unfold gx_ at h
            split at h
            · simp at h; rw [h] at hy3; simp [aG_] at hy3
            · simp at h
      · rw [← hs] at hy
        exact .inl (kG_ _ _ (fun h => absurd h h1) h3 hk y hy hy3)
  have hSfm : ∀ y, (y ∈ q.take n ∨ y = f) → (y ∈ fm ↔ y ∈ s'.2) := fun y hy => ⟨fun h => hfm.1 y h, fun h => (hfm.2.1 y h).elim id fun g => absurd (hSq y hy) g.1⟩
  refine ⟨?_, hl, ?_, hder, fun y hy => (hder y hy).form hr, ?_, ?_, ?_, ?_, ?_⟩
  · rw [hL]; exact hk_ m L q inv.nd
  · rw [hpre, List.length_append]; omega
  · have := Ix.of_firm hx' hSfm
    have e : (fun y => y ∈ s'.1.take (n + 1)) = (fun y => y ∈ q.take n ∨ y = f) := funext fun y => propext (hmem y)
    rw [e]; exact this
  · intro y hy
    rcases hfm.2.1 y hy with h | h
    · exact ⟨hsub y (inv.fmq y h).1, (inv.fmq y h).2⟩
    · exact h.2
  · intro y hy hk3
    rcases hfm.2.2 y hy hk3 with h | h | ⟨z, h1, h2, h3, h4, h5, h6, rfl⟩
    · exact (inv.firm y h hk3).mono hfm.1
    · exact .base h
    · exact .meet ((inv.firm f hfq h3).mono hfm.1) ((inv.firm z (hSq z h1) h2).mono hfm.1) h4 h5 h6
  · intro a ha
    obtain ⟨g1, g2, g3⟩ := inv.st a ha
    exact ⟨hsub _ g1, hsub _ g2, fun z hz hk => hsub _ (g3 z hz hk)⟩
  · intro y hy
    have e : (fun y => y ∈ s'.1.take (n + 1)) = (fun y => y ∈ q.take n ∨ y = f) := funext fun y => propext (hmem y)
    rw [e] at hy
    refine sm_ (A := A) hc hSq (fun z hz => hsub z (inv.cl z hz)) y (hy.congrM fun u v hu hv hm => hm.imp (hSfm u hu).2 (hSfm v hv).2)
theorem mm_le {a b c d e g : Int} (h : max a (max b c) ≤ min d (min e g)) : max a b ≤ min d e := by omega
theorem qS_ (inv : InvA ps A m q.length q fm x) (y : Fc) : Der ps A y ↔ y ∈ q := by
  refine ⟨fun h => h.least fun y hy => ?_, inv.der y⟩
  have hcl : ∀ y, One ps A (· ∈ q) (fun y z => y ∈ fm ∨ z ∈ fm) y → y ∈ q := fun y hy => inv.cl y (by rw [List.take_length]; exact hy)
  have key : ∀ f, Fmd fm f → ∀ z ∈ q, z.kind = 3 → z.a = f.a → z.r = f.r → (max z.lo f.lo ≤ min z.hi f.hi → dz_ z f ∈ q) ∧ (min z.hi f.hi < max z.lo f.lo → aG_ z.a [33] ∈ q) := by
    intro f hf
    induction hf with
    | @base f hb =>
      intro z hz hk ha hr'
      obtain ⟨hfq, hfk⟩ := inv.fmq f hb
      have ez := (gz_ (inv.form z hz) hk).1
      have ef := (gz_ (inv.form f hfq) hfk).1
      rw [← ha, ← hr'] at ef
      refine ⟨fun hl => hcl _ (.r12 (by rw [← ez]; exact hz) (by rw [← ef]; exact hfq) (.inr (by rw [← ef]; exact hb)) hl), fun hl => hcl _ (.r13 (r := z.r) (by rw [← ez]; exact hz) (by rw [← ef]; exact hfq) (.inr (by rw [← ef]; exact hb)) hl)⟩
    | @meet y w hy hw ha hr' hl ih1 ih2 =>
      intro z hz hk hza hzr
      have hza' : z.a = y.a := hza
      have hzr' : z.r = y.r := hzr
      obtain ⟨i1, i2⟩ := ih1 z hz hk hza' hzr'
      have hlo : (dz_ y w).lo = max y.lo w.lo := rfl
      have hhi : (dz_ y w).hi = min y.hi w.hi := rfl
      rw [hlo, hhi]
      by_cases hc : max z.lo y.lo ≤ min z.hi y.hi
      · have h1 := i1 hc
        obtain ⟨j1, j2⟩ := ih2 (dz_ z y) h1 rfl (by rw [ha, ← hza']; rfl) (by rw [hr', ← hzr']; rfl)
        have e1 : (dz_ z y).lo = max z.lo y.lo := rfl
        have e2 : (dz_ z y).hi = min z.hi y.hi := rfl
        rw [e1, e2] at j1 j2
        refine ⟨fun hl' => ?_, fun hl' => j2 (by rw [Int.max_assoc, Int.min_assoc]; exact hl')⟩
        have := j1 (by rw [Int.max_assoc, Int.min_assoc]; exact hl')
        have e : dz_ (dz_ z y) w = dz_ z (dz_ y w) := by
          simp only [dz_, aM_]
          rw [Int.max_assoc, Int.min_assoc]
        rw [← e]; exact this
      · exact ⟨fun hl' => absurd (mm_le hl') hc, fun _ => i2 (Int.not_le.1 hc)⟩
  have key2 : ∀ {a r : Str} {lo hi lo' hi' : Int}, aM_ a r lo hi ∈ q → aM_ a r lo' hi' ∈ q → (max lo lo' ≤ min hi hi' → aM_ a r (max lo lo') (min hi hi') ∈ q) ∧ (min hi hi' < max lo lo' → aG_ a [33] ∈ q) := fun h h' => key _ (inv.firm _ h' rfl) _ h rfl rfl rfl
  cases hy with
  | r1 h => exact hcl _ (.r1 h)
  | r2 h => exact hcl _ (.r2 h)
  | r10 hx hk h => exact hcl _ (.r10 hx hk h)
  | r3 hx hk h => exact hcl _ (.r3 hx hk h)
  | r4 hx hk h h' => exact hcl _ (.r4 hx hk h h')
  | r5 hx hk h => exact hcl _ (.r5 hx hk h)
  | r6 hx hk h => exact hcl _ (.r6 hx hk h)
  | r7 hx hk h h' => exact hcl _ (.r7 hx hk h h')
  | r8 hx hk h h' => exact hcl _ (.r8 hx hk h h')
  | r9 h h' => exact hcl _ (.r9 h h')
  | r11 hx hk h => exact hcl _ (.r11 hx hk h)
  | r12 h h' hm hl => exact (key2 h h').1 hl
  | r13 h h' hm hl => exact (key2 h h').2 hl
  | r14 hx hk h h1 h2 => exact hcl _ (.r14 hx hk h h1 h2)
end
def eF_ (loops : List Str) (A : List Str) : List Fc := A.flatMap fun a => aG_ a a :: aG_ a [42] :: loops.map fun r => aP_ a r a
theorem iQ_ {ps : List Pc} {A : List Str} {S : Fc → Prop} {M : Fc → Fc → Prop} : ∀ y ∈ eF_ (aB_ ps) A, One ps A S M y := by
  intro y hy
  obtain ⟨a, ha, hy⟩ := List.mem_flatMap.1 hy
  simp only [List.mem_cons] at hy
  rcases hy with rfl | rfl | hy
  · exact .r1 ha
  · exact .r2 ha
  · obtain ⟨r, hr, rfl⟩ := List.mem_map.1 hy
    obtain ⟨z, hz, rfl⟩ := List.mem_map.1 hr
    obtain ⟨h1, h2⟩ := List.mem_filter.1 hz
    exact .r10 h1 (of_decide_eq_true h2) ha
theorem fV_ {ps : List Pc} {A : List Str} {a : Str} (ha : a ∈ A) : aG_ a a ∈ eF_ (aB_ ps) A ∧ aG_ a [42] ∈ eF_ (aB_ ps) A ∧ ∀ z ∈ ps, z.kind = 7 → aP_ a z.r a ∈ eF_ (aB_ ps) A := by
  refine ⟨List.mem_flatMap.2 ⟨a, ha, by simp⟩, List.mem_flatMap.2 ⟨a, ha, by simp⟩, fun z hz hk => List.mem_flatMap.2 ⟨a, ha, ?_⟩⟩
  exact List.mem_cons_of_mem _ (List.mem_cons_of_mem _ (List.mem_map.2 ⟨z.r, List.mem_map.2 ⟨z, List.mem_filter.2 ⟨hz, decide_eq_true hk⟩, rfl⟩, rfl⟩))
structure LoopA (ps : List Pc) (A : List Str) (m n : Nat) (q fm : List Fc) (x : Ix) : Prop where
  nd : q.Nodup
  len : q.length ≤ m + 1
  le : n ≤ q.length
  der : ∀ y ∈ q, Der ps A y
  ix : x.of (· ∈ q.take n) (· ∈ fm)
  inv : q.length ≤ m → InvA ps A m n q fm x
section
variable {ps : List Pc} {A : List Str} {m n : Nat} {q fm : List Fc} {x : Ix} {f : Fc}
theorem mU_ (hr : ∀ x ∈ ps, x.vok) {q : List Fc} (hq : emits (bx_ m) (eF_ (aB_ ps) A) [] = q) : LoopA ps A m 0 q [] Ix.nil := by
  have hmem : ∀ y ∈ q, y ∈ eF_ (aB_ ps) A := fun y hy => by rw [← hq] at hy; exact (fz_ m _ _ y hy).elim (fun h => by simp at h) id
  have hder : ∀ y ∈ q, Der ps A y := fun y hy => Der.step (iQ_ y (hmem y hy))
  have hnd : q.Nodup := by rw [← hq]; exact hk_ m _ _ List.nodup_nil
  have hix : Ix.nil.of (· ∈ q.take 0) (· ∈ ([] : List Fc)) := by
    have e : (fun y => y ∈ q.take 0) = (fun _ => False) := funext fun y => by simp
    rw [e]; exact Ix.of_nil _
  refine ⟨hnd, by rw [← hq]; exact lH_ m _ _ (by simp), Nat.zero_le _, hder, hix, fun hl => ⟨hnd, hl, Nat.zero_le _, hder, fun y hy => (hder y hy).form hr, hix, by simp, fun y hy hk => ?_, fun a ha => ?_, fun y hy => ?_⟩⟩
  · exfalso
    obtain ⟨a, _, h⟩ := List.mem_flatMap.1 (hmem y hy)
    simp only [List.mem_cons] at h
    rcases h with rfl | rfl | h
    · simp [aG_] at hk
    · simp [aG_] at hk
    · obtain ⟨r, _, rfl⟩ := List.mem_map.1 h
      simp [aP_] at hk
  · obtain ⟨g1, g2, g3⟩ := fV_ (ps := ps) ha
    rw [← hq] at hl ⊢
    exact ⟨hl_ m _ _ hl _ g1, hl_ m _ _ hl _ g2, fun z hz hk => hl_ m _ _ hl _ (g3 z hz hk)⟩
  · rw [← hq] at hl
    have B : ∀ a ∈ A, _ := fun a ha => fV_ (ps := ps) ha
    have hin : ∀ z ∈ eF_ (aB_ ps) A, z ∈ q := fun z hz => by rw [← hq]; exact hl_ m _ _ hl z hz
    cases hy with
    | r1 h => exact hin _ (B _ h).1
    | r2 h => exact hin _ (B _ h).2.1
    | r10 hx hk h => exact hin _ ((B _ h).2.2 _ hx hk)
    | r3 hx hk h => simp at h
    | r4 hx hk h h' => simp at h
    | r5 hx hk h => simp at h
    | r6 hx hk h => simp at h
    | r7 hx hk h h' => simp at h
    | r8 hx hk h h' => simp at h
    | r9 h h' => simp at h
    | r11 hx hk h => simp at h
    | r12 h h' hm hl => simp at h
    | r13 h h' hm hl => simp at h
    | r14 hx hk h h1 h2 => simp at h
theorem cz_ (hr : ∀ x ∈ ps, x.vok) (h : LoopA ps A m n q fm x) (hn : q[n]? = some f) (j : Nat) {s' : List Fc × List Fc} (hs : rls (bx_ m) idk (aW_ ps) (x.add (decide (f ∈ fm)) f) f j (q, fm) = s') :
    s'.1.Nodup ∧ s'.1.length ≤ m + 1 ∧ (∀ y ∈ s'.1, Der ps A y) ∧ ∃ t, s'.1 = q ++ t := by
  have hfq : f ∈ q := List.mem_of_getElem? hn
  have hSq : ∀ y, (y ∈ q.take n ∨ y = f) → y ∈ q := fun y hy => hy.elim (fun h => List.mem_of_mem_take h) (fun h => h ▸ hfq)
  obtain ⟨L, hL⟩ := ir_ (ps := ps) (x := x.add (decide (f ∈ fm)) f) (f := f) (eR_ m) j (q, fm)
  rw [hs] at hL
  refine ⟨by rw [hL]; exact hk_ m L q h.nd, by rw [hL]; exact lH_ m L q h.len, ?_, by rw [hL]; exact ij_ m L q⟩
  rw [← hs]
  exact js_ hr (Ix.of_add h.ix f (by simp)) (fun y hy => (h.der y (hSq y hy)).form hr) ((h.der f hfq).form hr) (q, fm) hSq hfq h.der j
theorem hA_ (hr : ∀ x ∈ ps, x.vok) (h : LoopA ps A m n q fm x) (hn : q[n]? = some f) {s' : List Fc × List Fc} (hs : rls (bx_ m) idk (aW_ ps) (x.add (decide (f ∈ fm)) f) f (nrl f) (q, fm) = s') (hl : s'.1.length ≤ m) :
    LoopA ps A m (n + 1) s'.1 s'.2 (x.add (decide (f ∈ fm)) f) := by
  obtain ⟨_, _, _, t, ht⟩ := cz_ hr h hn (nrl f) hs
  have hi := qR_ hr (h.inv (by rw [ht, List.length_append] at hl; omega)) hn hs hl
  exact ⟨hi.nd, by have := hi.len; omega, hi.le, hi.der, hi.ix, fun _ => hi⟩
theorem nO_ (h : LoopA ps A m q.length q fm x) (hl : q.length ≤ m) (y : Fc) : Der ps A y ↔ y ∈ q := qS_ (h.inv hl) y
end
theorem zf_eq (x : Pc) : ∃ n, { x.zf with frm := n } = x := ⟨x.frm, rfl⟩
theorem me_ {p : List Pc} {A : List Str} {y : Fc} : Der (uniq [] p) A y ↔ Der p A y := by
  constructor
  · refine Der.mono (fun x hx => ?_) (fun _ h => h)
    rcases (hJ_ p [] x).1 hx with h | ⟨z, hz, rfl⟩
    · simp at h
    · exact ⟨z, hz, 0, rfl⟩
  · exact Der.mono (fun x hx => ⟨x.zf, (hJ_ p [] _).2 (.inr ⟨x, hx, rfl⟩), zf_eq x⟩) (fun _ h => h)
theorem qa_ {p : List Pc} (h : ∀ x ∈ p, x.vok) : ∀ x ∈ uniq [] p, x.vok := fun x hx => by
  rcases (hJ_ p [] x).1 hx with h1 | ⟨z, hz, rfl⟩
  · simp at h1
  · exact ⟨(h z hz).rok, (h z hz).num⟩
def Fc.lt (x y : Fc) : Prop := x.kind < y.kind ∨ x.kind = y.kind ∧ (x.a < y.a ∨ x.a = y.a ∧ (x.b < y.b ∨ x.b = y.b ∧ (x.r < y.r ∨ x.r = y.r ∧ (x.lo < y.lo ∨ x.lo = y.lo ∧ x.hi < y.hi))))
instance (x y : Fc) : Decidable (Fc.lt x y) := by unfold Fc.lt; exact inferInstance
theorem eq_ (x : Str) : ¬ x < x := List.lt_irrefl x
theorem lf_ (x y : Str) : x < y ∨ x = y ∨ y < x := by
  by_cases h : x < y
  · exact .inl h
  · by_cases h' : y < x
    · exact .inr (.inr h')
    · exact .inr (.inl (List.le_antisymm (List.not_lt.1 h') (List.not_lt.1 h)))
theorem Fc.lt_irr (x : Fc) : ¬ x.lt x := by
  unfold Fc.lt
  simp [eq_]
theorem Fc.lt_tri (x y : Fc) : x.lt y ∨ x = y ∨ y.lt x := by
  unfold Fc.lt
  rcases Int.lt_trichotomy x.kind y.kind with h | h | h
  · exact .inl (.inl h)
  · rcases lf_ x.a y.a with h1 | h1 | h1
    · exact .inl (.inr ⟨h, .inl h1⟩)
    · rcases lf_ x.b y.b with h2 | h2 | h2
      · exact .inl (.inr ⟨h, .inr ⟨h1, .inl h2⟩⟩)
      · rcases lf_ x.r y.r with h3 | h3 | h3
        · exact .inl (.inr ⟨h, .inr ⟨h1, .inr ⟨h2, .inl h3⟩⟩⟩)
        · rcases Int.lt_trichotomy x.lo y.lo with h4 | h4 | h4
          · exact .inl (.inr ⟨h, .inr ⟨h1, .inr ⟨h2, .inr ⟨h3, .inl h4⟩⟩⟩⟩)
          · rcases Int.lt_trichotomy x.hi y.hi with h5 | h5 | h5
            · exact .inl (.inr ⟨h, .inr ⟨h1, .inr ⟨h2, .inr ⟨h3, .inr ⟨h4, h5⟩⟩⟩⟩⟩)
            · refine .inr (.inl ?_); cases x; cases y; simp_all
            · exact .inr (.inr (.inr ⟨h.symm, .inr ⟨h1.symm, .inr ⟨h2.symm, .inr ⟨h3.symm, .inr ⟨h4.symm, h5⟩⟩⟩⟩⟩))
          · exact .inr (.inr (.inr ⟨h.symm, .inr ⟨h1.symm, .inr ⟨h2.symm, .inr ⟨h3.symm, .inl h4⟩⟩⟩⟩))
        · exact .inr (.inr (.inr ⟨h.symm, .inr ⟨h1.symm, .inr ⟨h2.symm, .inl h3⟩⟩⟩))
      · exact .inr (.inr (.inr ⟨h.symm, .inr ⟨h1.symm, .inl h2⟩⟩))
    · exact .inr (.inr (.inr ⟨h.symm, .inl h1⟩))
  · exact .inr (.inr (.inl h))
theorem fM_ {α : Type} {lt : α → α → Prop} (ht : ∀ {x y z}, lt x y → lt y z → lt x z) {x y z : α} {P Q R : Prop} (hr : x = y → y = z → P → Q → R) (h1 : lt x y ∨ x = y ∧ P) (h2 : lt y z ∨ y = z ∧ Q) : lt x z ∨ x = z ∧ R := by
  rcases h1 with h1 | ⟨rfl, h1⟩
  · rcases h2 with h2 | ⟨rfl, h2⟩
    · exact .inl (ht h1 h2)
    · exact .inl h1
  · rcases h2 with h2 | ⟨rfl, h2⟩
    · exact .inl h2
    · exact .inr ⟨rfl, hr rfl rfl h1 h2⟩
theorem Fc.lt_trans {x y z : Fc} (h1 : x.lt y) (h2 : y.lt z) : x.lt z :=
  fM_ (lt := fun a b : Int => a < b) Int.lt_trans (fun _ _ => fM_ (lt := fun a b : Str => a < b) List.lt_trans (fun _ _ => fM_ (lt := fun a b : Str => a < b) List.lt_trans (fun _ _ => fM_ (lt := fun a b : Str => a < b) List.lt_trans (fun _ _ => fM_ (lt := fun a b : Int => a < b) Int.lt_trans fun _ _ => Int.lt_trans)))) h1 h2
theorem fj_ {α : Type} {lt : α → α → Prop} (hi : ∀ x, ¬ lt x x) (ht : ∀ {x y z}, lt x y → lt y z → lt x z) : ∀ {l m : List α}, l.Pairwise lt → m.Pairwise lt → (∀ x, x ∈ l ↔ x ∈ m) → l = m
  | [], [], _, _, _ => rfl
  | [], y :: m, _, _, h => by have := (h y).2 (by simp); simp at this
  | x :: l, [], _, _, h => by have := (h x).1 (by simp); simp at this
  | x :: l, y :: m, h1, h2, h => by
    rw [List.pairwise_cons] at h1 h2
    have e : x = y := by
      rcases List.mem_cons.1 ((h x).1 (by simp)) with e | hx
      · exact e
      · rcases List.mem_cons.1 ((h y).2 (by simp)) with e | hy
        · exact e.symm
        · exact absurd (ht (h1.1 y hy) (h2.1 x hx)) (hi x)
    subst e
    congr 1
    refine fj_ hi ht h1.2 h2.2 fun z => ⟨fun hz => ?_, fun hz => ?_⟩
    · rcases List.mem_cons.1 ((h z).1 (by simp [hz])) with rfl | q
      · exact absurd (h1.1 z hz) (hi z)
      · exact q
    · rcases List.mem_cons.1 ((h z).2 (by simp [hz])) with rfl | q
      · exact absurd (h2.1 z hz) (hi z)
      · exact q
abbrev Srt (l : List Fc) : Prop := l.Pairwise Fc.lt
theorem Srt.ext {l m : List Fc} (h1 : Srt l) (h2 : Srt m) (h : ∀ x, x ∈ l ↔ x ∈ m) : l = m := fj_ Fc.lt_irr Fc.lt_trans h1 h2 h
theorem Srt.nodup {l : List Fc} (h : Srt l) : l.Nodup := by
  unfold List.Nodup
  refine List.Pairwise.imp ?_ h
  intro a b hab e
  exact Fc.lt_irr b (e ▸ hab)
def cT_ (p : List Pc) (A : List Str) (m : Nat) : Option (List Fc) → Prop
  | some L => Srt L ∧ (∀ y, y ∈ L ↔ Der p A y) ∧ L.length ≤ m
  | none => ∃ M : List Fc, M.Nodup ∧ (∀ y ∈ M, Der p A y) ∧ m < M.length
theorem fL_ {α : Type} [DecidableEq α] : ∀ {l m : List α}, l.Nodup → (∀ x ∈ l, x ∈ m) → l.length ≤ m.length
  | [], m, _, _ => by simp
  | x :: l, m, h, hs => by
    rw [List.nodup_cons] at h
    have := fL_ (l := l) (m := m.erase x) h.2 fun y hy => by
      have hne : y ≠ x := fun e => h.1 (e ▸ hy)
      exact (List.mem_erase_of_ne hne).2 (hs y (by simp [hy]))
    have hx := hs x (by simp)
    rw [List.length_erase_of_mem hx] at this
    have : 0 < m.length := List.length_pos_of_mem hx
    simp only [List.length_cons]
    omega
theorem cT_.uniq {p : List Pc} {A : List Str} {m : Nat} {r r' : Option (List Fc)} (h : cT_ p A m r) (h' : cT_ p A m r') : r = r' := by
  cases r with
  | none =>
    cases r' with
    | none => rfl
    | some L =>
      obtain ⟨M, h1, h2, h3⟩ := h
      obtain ⟨_, g2, g3⟩ := h'
      have := fL_ h1 fun x hx => (g2 x).2 (h2 x hx)
      omega
  | some L =>
    cases r' with
    | none =>
      obtain ⟨M, h1, h2, h3⟩ := h'
      obtain ⟨_, g2, g3⟩ := h
      have := fL_ h1 fun x hx => (g2 x).2 (h2 x hx)
      omega
    | some L' => rw [h.1.ext h'.1 fun x => by rw [h.2.1, h'.2.1]]
end Go.Vs
namespace Go.Vs
open Go Go.Sx
section
variable {ps : List Pc} {A : List Str} {c : List Fc} {x : Ix} {f : Fc}
theorem Cmpl.up {S Fm kn good good' : Fc → Prop} (h : Cmpl ps S Fm kn good f) (hg : ∀ y, good y → good' y) : Cmpl ps S Fm kn good' f :=
  ⟨fun z a h1 h2 h3 => hg _ (h.c3 z a h1 h2 h3), fun z a h1 h2 h3 h4 => hg _ (h.c4 z a h1 h2 h3 h4), fun z a h1 h2 h3 h4 => hg _ (h.c4' z a h1 h2 h3 h4), fun z a h1 h2 h3 => hg _ (h.c5 z a h1 h2 h3), fun z a b h1 h2 h3 => hg _ (h.c6 z a b h1 h2 h3),
   fun z a b c h1 h2 h3 h4 => hg _ (h.c7 z a b c h1 h2 h3 h4), fun z a b c h1 h2 h3 h4 => hg _ (h.c7' z a b c h1 h2 h3 h4), fun z a b h1 h2 h3 h4 => hg _ (h.c8 z a b h1 h2 h3 h4), fun z a b h1 h2 h3 h4 => hg _ (h.c8' z a b h1 h2 h3 h4), fun a r b h1 h2 => hg _ (h.c9 a r b h1 h2), fun a r b h1 h2 => hg _ (h.c9' a r b h1 h2),
   fun z a h1 h2 h3 => hg _ (h.c11 z a h1 h2 h3), fun y h1 h2 h3 h4 h5 h6 h7 => hg _ (h.c12 y h1 h2 h3 h4 h5 h6 h7), fun y h1 h2 h3 h4 h5 h6 h7 => hg _ (h.c13 y h1 h2 h3 h4 h5 h6 h7), fun z a lo hi h1 h2 h3 h4 h5 => hg _ (h.c14 z a lo hi h1 h2 h3 h4 h5)⟩
theorem re_ {good : Fc → Prop} (hb : ∀ y ∈ eF_ (aB_ ps) A, good y) (hc : ∀ f ∈ c, Cmpl ps (· ∈ c) (fun _ => True) (· ∈ c) good f) {y : Fc} (h : fX_ ps A (· ∈ c) y) : good y := by
  cases h with
  | r1 h => exact hb _ (fV_ h).1
  | r2 h => exact hb _ (fV_ h).2.1
  | r10 hx hk h => exact hb _ ((fV_ h).2.2 _ hx hk)
  | r3 hx hk h => exact (hc _ h).c3 _ _ hx hk rfl
  | r4 hx hk h h' => exact (hc _ h).c4 _ _ hx hk rfl h'
  | r5 hx hk h => exact (hc _ h).c5 _ _ hx hk rfl
  | r6 hx hk h => exact (hc _ h).c6 _ _ _ hx hk rfl
  | r7 hx hk h h' => exact (hc _ h).c7 _ _ _ _ hx hk rfl h'
  | r8 hx hk h h' => exact (hc _ h).c8 _ _ _ hx hk rfl h'
  | r9 h h' => exact (hc _ h).c9 _ _ _ rfl h'
  | r11 hx hk h => exact (hc _ h).c11 _ _ hx hk rfl
  | r12 h h' hm hl => exact (hc _ h).c12 _ rfl h' rfl rfl rfl (.inl trivial) hl
  | r13 h h' hm hl => exact (hc _ h).c13 _ rfl h' rfl rfl rfl (.inl trivial) hl
  | r14 hx hk h h1 h2 => exact (hc _ h).c14 _ _ _ _ hx hk rfl h1 h2
end
def cy_ (l : List Fc) (f : Fc) : Nat := l.countP fun y => decide (y.lt f)
def nV_ (l : List Fc) (f : Fc) : List Fc := if f ∈ l then l else l.take (cy_ l f) ++ f :: l.drop (cy_ l f)
theorem pn_ (l : List Fc) (f : Fc) : cy_ l f ≤ l.length := List.countP_le_length
theorem gM_ : ∀ {l : List Fc} (f : Fc), Srt l → (∀ y ∈ l.take (cy_ l f), y.lt f) ∧ (∀ y ∈ l.drop (cy_ l f), ¬ y.lt f)
  | [], f, _ => by simp [cy_]
  | x :: l, f, h => by
    rw [Srt, List.pairwise_cons] at h
    obtain ⟨i1, i2⟩ := gM_ f h.2
    by_cases hx : x.lt f
    · have e : cy_ (x :: l) f = cy_ l f + 1 := by simp [cy_, hx]
      rw [e]
      simp only [List.take_succ_cons, List.drop_succ_cons]
      exact ⟨fun y hy => (List.mem_cons.1 hy).elim (fun q => q ▸ hx) (i1 y), i2⟩
    · have hall : ∀ y ∈ l, ¬ y.lt f := fun y hy q => hx (Fc.lt_trans (h.1 y hy) q)
      have e : cy_ (x :: l) f = 0 := by
        simp only [cy_, List.countP_cons, hx, decide_false, Bool.false_eq_true, if_false, Nat.add_zero]
        rw [List.countP_eq_zero]
        intro y hy; simpa using hall y hy
      rw [e]
      simp only [List.take_zero, List.not_mem_nil, false_imp_iff, implies_true, true_and, List.drop_zero]
      intro y hy
      rcases List.mem_cons.1 hy with rfl | hy
      · exact hx
      · exact hall y hy
theorem qV_ (l : List Fc) (f y : Fc) : y ∈ nV_ l f ↔ y ∈ l ∨ y = f := by
  unfold nV_
  split
  · rename_i h
    exact ⟨.inl, fun q => q.elim id fun e => e ▸ h⟩
  · have : y ∈ l ↔ y ∈ l.take (cy_ l f) ∨ y ∈ l.drop (cy_ l f) := by rw [← List.mem_append, List.take_append_drop]
    rw [this]
    simp only [List.mem_append, List.mem_cons]
    constructor
    · rintro (h | h | h)
      · exact .inl (.inl h)
      · exact .inr h
      · exact .inl (.inr h)
    · rintro ((h | h) | h)
      · exact .inl h
      · exact .inr (.inr h)
      · exact .inr (.inl h)
theorem qU_ {l : List Fc} (f : Fc) (h : Srt l) : Srt (nV_ l f) := by
  unfold nV_
  split
  · exact h
  · rename_i hn
    obtain ⟨h1, h2⟩ := gM_ f h
    have hd : ∀ y ∈ l.drop (cy_ l f), f.lt y := fun y hy => by
      rcases Fc.lt_tri f y with q | q | q
      · exact q
      · exact absurd (List.mem_of_mem_drop hy) (q ▸ hn)
      · exact absurd q (h2 y hy)
    rw [Srt, List.pairwise_append]
    refine ⟨h.sublist (List.take_sublist _ _), List.pairwise_cons.2 ⟨hd, h.sublist (List.drop_sublist _ _)⟩, fun a ha b hb => ?_⟩
    rcases List.mem_cons.1 hb with rfl | hb
    · exact h1 a ha
    · exact Fc.lt_trans (h1 a ha) (hd b hb)
theorem kU_ {l : List Fc} (h : Srt l) (f : Fc) : f ∈ l ↔ l[cy_ l f]? = some f := by
  obtain ⟨h1, h2⟩ := gM_ f h
  refine ⟨fun hf => ?_, fun hf => List.mem_of_getElem? hf⟩
  rw [← List.take_append_drop (cy_ l f) l, List.mem_append] at hf
  rcases hf with hf | hf
  · exact absurd (h1 f hf) (Fc.lt_irr f)
  · have hs : Srt (l.drop (cy_ l f)) := h.sublist (List.drop_sublist _ _)
    cases hd : l.drop (cy_ l f) with
    | nil => rw [hd] at hf; simp at hf
    | cons z r =>
      have hz : l[cy_ l f]? = some z := by
        have := congrArg (fun q => q[0]?) hd
        simpa [List.getElem?_drop] using this
      rw [hd] at hf hs h2
      rcases List.mem_cons.1 hf with rfl | hf
      · exact hz
      · rw [Srt, List.pairwise_cons] at hs
        exact absurd (hs.1 f hf) (h2 z (by simp))
def subA (p : List Pc) (l : List Fc) (f : Fc) : List Fc := p.flatMap fun x =>
  if x.kind = 1 ∧ x.a = f.b then [aG_ f.a x.c]
  else if x.kind = 2 ∧ (x.a = f.b ∧ aG_ f.a x.b ∈ l ∨ x.b = f.b ∧ aG_ f.a x.a ∈ l) then [aG_ f.a x.c]
  else if x.kind = 3 ∧ x.a = f.b then [aP_ f.a x.r x.c]
  else if x.kind = 8 ∧ x.a = f.b then [aM_ f.a x.r x.lo x.hi]
  else []
def subBp (p : List Pc) (f y : Fc) : List Fc := p.flatMap fun x => if x.kind = 4 ∧ x.r = y.r ∧ x.a = f.b then [aG_ y.a x.c] else []
def subB (p : List Pc) (f y : Fc) : List Fc := if y.kind ≠ 2 ∨ y.b ≠ f.a then [] else (if f.b = [33] then [aG_ y.a [33]] else []) ++ subBp p f y
def subS (p : List Pc) (l : List Fc) (f : Fc) : List Fc := subA p l f ++ l.flatMap (subB p f)
def oD_ (x : Pc) (f y : Fc) : List Fc := if y.kind ≠ 2 then [] else (if x.r = f.r ∧ y.a = f.b ∧ y.r = x.s then [aP_ f.a x.t y.b] else []) ++ (if x.s = f.r ∧ y.b = f.a ∧ y.r = x.r then [aP_ y.a x.t f.b] else [])
def kP_ (l : List Fc) (f : Fc) (x : Pc) : List Fc :=
  if x.kind = 5 ∧ x.r = f.r then [aP_ f.a x.t f.b]
  else if x.kind = 4 ∧ x.r = f.r ∧ aG_ f.b x.a ∈ l then [aG_ f.a x.c]
  else if x.kind = 6 then l.flatMap (oD_ x f) else []
def sG_ (p : List Pc) (l : List Fc) (f : Fc) : List Fc := (if aG_ f.b [33] ∈ l then [aG_ f.a [33]] else []) ++ p.flatMap (kP_ l f)
def lj_ (f y : Fc) : List Fc := if y.kind ≠ 3 ∨ y.a ≠ f.a ∨ y.r ≠ f.r then [] else if max f.lo y.lo ≤ min f.hi y.hi then [dz_ f y] else [aG_ f.a [33]]
def nC_ (f : Fc) (x : Pc) : List Fc := if x.kind = 9 ∧ x.r = f.r ∧ x.lo ≤ f.lo ∧ f.hi ≤ x.hi then [aG_ f.a x.c] else []
def qr_ (p : List Pc) (l : List Fc) (f : Fc) : List Fc := l.flatMap (lj_ f) ++ p.flatMap (nC_ f)
def fH_ (p : List Pc) (l : List Fc) (f : Fc) : List Fc := if f.kind = 1 then subS p l f else if f.kind = 2 then sG_ p l f else qr_ p l f
def iC_ (p : List Pc) (A : List Str) : List Fc := A.flatMap fun a => aG_ a a :: aG_ a [42] :: (p.filter fun x => decide (x.kind = 7)).map fun x => aP_ a x.r a
theorem kY_ (p : List Pc) (A : List Str) : iC_ p A = eF_ (aB_ p) A := by
  unfold iC_ eF_ aB_
  simp [List.map_map, Function.comp_def]
section
variable {p : List Pc} {A : List Str} {l : List Fc} {f : Fc}
theorem mi_ (hf : f ∈ l) (hF : ∀ y ∈ l, y.form) : ∀ y ∈ fH_ p l f, fX_ p A (· ∈ l) y := by
  have hff := hF f hf
  have hk := hi_ hff
  intro y hy
  unfold fH_ at hy
  split at hy
  · rename_i h1
    have ef := kb_ hff h1
    rcases List.mem_append.1 hy with hy | hy
    · obtain ⟨x, hx, hy⟩ := List.mem_flatMap.1 hy
      split at hy
      · rename_i hc
        simp at hy; subst hy
        exact .r3 hx hc.1 (by rw [hc.2, ← ef]; exact hf)
      · split at hy
        · rename_i hc
          simp at hy; subst hy
          rcases hc.2 with h | h
          · exact .r4 hx hc.1 (by rw [h.1, ← ef]; exact hf) h.2
          · exact .r4 hx hc.1 h.2 (by rw [h.1, ← ef]; exact hf)
        · split at hy
          · rename_i hc
            simp at hy; subst hy
            exact .r5 hx hc.1 (by rw [hc.2, ← ef]; exact hf)
          · split at hy
            · rename_i hc
              simp at hy; subst hy
              exact .r11 hx hc.1 (by rw [hc.2, ← ef]; exact hf)
            · simp at hy
    · obtain ⟨g, hg, hy⟩ := List.mem_flatMap.1 hy
      unfold subB at hy
      split at hy
      · simp at hy
      · rename_i hc
        simp only [not_or, Decidable.not_not] at hc
        have eg := (ic_ (hF g hg) hc.1).1
        rcases List.mem_append.1 hy with hy | hy
        · split at hy
          · rename_i hb
            simp at hy; subst hy
            exact .r9 (r := g.r) (b := g.b) (by rw [← eg]; exact hg) (by rw [hc.2, ← hb, ← ef]; exact hf)
          · simp at hy
        · obtain ⟨x, hx, hy⟩ := List.mem_flatMap.1 hy
          split at hy
          · rename_i hd
            simp at hy; subst hy
            exact .r8 (b := g.b) hx hd.1 (by rw [hd.2.1, ← eg]; exact hg) (by rw [hc.2, hd.2.2, ← ef]; exact hf)
          · simp at hy
  · split at hy
    · rename_i h2
      have ef := (ic_ hff h2).1
      rcases List.mem_append.1 hy with hy | hy
      · split at hy
        · rename_i hb
          simp at hy; subst hy
          exact .r9 (r := f.r) (b := f.b) (by rw [← ef]; exact hf) hb
        · simp at hy
      · obtain ⟨x, hx, hy⟩ := List.mem_flatMap.1 hy
        unfold kP_ at hy
        split at hy
        · rename_i hc
          simp at hy; subst hy
          exact .r6 hx hc.1 (by rw [hc.2, ← ef]; exact hf)
        · split at hy
          · rename_i hc
            simp at hy; subst hy
            exact .r8 (b := f.b) hx hc.1 (by rw [hc.2.1, ← ef]; exact hf) hc.2.2
          · split at hy
            · rename_i hc
              obtain ⟨g, hg, hy⟩ := List.mem_flatMap.1 hy
              unfold oD_ at hy
              split at hy
              · simp at hy
              · rename_i hgk
                have eg := (ic_ (hF g hg) (Decidable.not_not.1 hgk)).1
                rcases List.mem_append.1 hy with hy | hy
                · split at hy
                  · rename_i hd
                    simp at hy; subst hy
                    exact .r7 (b := f.b) hx hc (by rw [hd.1, ← ef]; exact hf) (by rw [← hd.2.2, ← hd.2.1, ← eg]; exact hg)
                  · simp at hy
                · split at hy
                  · rename_i hd
                    simp at hy; subst hy
                    exact .r7 (b := f.a) hx hc (by rw [← hd.2.2, ← hd.2.1, ← eg]; exact hg) (by rw [hd.1, ← ef]; exact hf)
                  · simp at hy
            · simp at hy
    · rename_i h1 h2
      have h3 : f.kind = 3 := by omega
      have ef := (gz_ hff h3).1
      rcases List.mem_append.1 hy with hy | hy
      · obtain ⟨g, hg, hy⟩ := List.mem_flatMap.1 hy
        unfold lj_ at hy
        split at hy
        · simp at hy
        · rename_i hc
          simp only [not_or, Decidable.not_not] at hc
          have eg := (gz_ (hF g hg) hc.1).1
          rw [hc.2.1, hc.2.2] at eg
          split at hy
          · rename_i hl
            simp at hy; subst hy
            exact .r12 (by rw [← ef]; exact hf) (by rw [← eg]; exact hg) trivial hl
          · rename_i hl
            simp at hy; subst hy
            exact .r13 (r := f.r) (by rw [← ef]; exact hf) (by rw [← eg]; exact hg) trivial (Int.not_le.1 hl)
      · obtain ⟨x, hx, hy⟩ := List.mem_flatMap.1 hy
        unfold nC_ at hy
        split at hy
        · rename_i hc
          simp at hy; subst hy
          exact .r14 hx hc.1 (by rw [hc.2.1, ← ef]; exact hf) hc.2.2.1 hc.2.2.2
        · simp at hy
theorem nx_ : Cmpl p (· ∈ l) (fun _ => True) (· ∈ l) (· ∈ fH_ p l f) f := by
  have s1 : ∀ {a b y}, f = aG_ a b → (y ∈ subS p l f) → y ∈ fH_ p l f := fun e h => by unfold fH_; rw [if_pos (by rw [e]; rfl)]; exact h
  have s2 : ∀ {a r b y}, f = aP_ a r b → (y ∈ sG_ p l f) → y ∈ fH_ p l f := fun e h => by unfold fH_; rw [if_neg (by rw [e]; simp [aP_]), if_pos (by rw [e]; rfl)]; exact h
  have s3 : ∀ {y}, f.kind = 3 → (y ∈ qr_ p l f) → y ∈ fH_ p l f := fun e h => by unfold fH_; rw [if_neg (by rw [e]; decide), if_neg (by rw [e]; decide)]; exact h
  refine ⟨?_, ?_, ?_, ?_, ?_, ?_, ?_, ?_, ?_, ?_, ?_, ?_, ?_, ?_, ?_⟩
  · intro z a hz hk e
    refine s1 e (List.mem_append_left _ (List.mem_flatMap.2 ⟨z, hz, ?_⟩))
    rw [e, if_pos ⟨hk, rfl⟩]; simp [aG_]
  · intro z a hz hk e h
    refine s1 e (List.mem_append_left _ (List.mem_flatMap.2 ⟨z, hz, ?_⟩))
    rw [e, if_neg (by rw [hk]; simp), if_pos ⟨hk, .inl ⟨rfl, h⟩⟩]; simp [aG_]
  · intro z a hz hk e h
    refine s1 e (List.mem_append_left _ (List.mem_flatMap.2 ⟨z, hz, ?_⟩))
    rw [e, if_neg (by rw [hk]; simp), if_pos ⟨hk, .inr ⟨rfl, h⟩⟩]; simp [aG_]
  · intro z a hz hk e
    refine s1 e (List.mem_append_left _ (List.mem_flatMap.2 ⟨z, hz, ?_⟩))
    rw [e, if_neg (by rw [hk]; simp), if_neg (by rw [hk]; simp), if_pos ⟨hk, rfl⟩]; simp [aG_]
  · intro z a b hz hk e
    refine s2 e (List.mem_append_right _ (List.mem_flatMap.2 ⟨z, hz, ?_⟩))
    rw [e, kP_, if_pos ⟨hk, rfl⟩]; simp [aP_]
  · intro z a b c hz hk e h
    refine s2 e (List.mem_append_right _ (List.mem_flatMap.2 ⟨z, hz, ?_⟩))
    rw [e, kP_, if_neg (by rw [hk]; simp), if_neg (by rw [hk]; simp), if_pos hk]
    refine List.mem_flatMap.2 ⟨_, h, ?_⟩
    rw [oD_, if_neg (by simp [aP_])]
    refine List.mem_append_left _ ?_
    rw [if_pos ⟨rfl, rfl, rfl⟩]; simp [aP_]
  · intro z a b c hz hk e h
    refine s2 e (List.mem_append_right _ (List.mem_flatMap.2 ⟨z, hz, ?_⟩))
    rw [e, kP_, if_neg (by rw [hk]; simp), if_neg (by rw [hk]; simp), if_pos hk]
    refine List.mem_flatMap.2 ⟨_, h, ?_⟩
    rw [oD_, if_neg (by simp [aP_])]
    refine List.mem_append_right _ ?_
    rw [if_pos ⟨rfl, rfl, rfl⟩]; simp [aP_]
  · intro z a b hz hk e h
    refine s2 e (List.mem_append_right _ (List.mem_flatMap.2 ⟨z, hz, ?_⟩))
    rw [e, kP_, if_neg (by rw [hk]; simp), if_pos ⟨hk, rfl, h⟩]; simp [aP_]
  · intro z a b hz hk e h
    refine s1 e (List.mem_append_right _ (List.mem_flatMap.2 ⟨_, h, ?_⟩))
    rw [subB, if_neg (by rw [e]; simp [aP_, aG_])]
    refine List.mem_append_right _ (List.mem_flatMap.2 ⟨z, hz, ?_⟩)
    rw [e, if_pos ⟨hk, rfl, rfl⟩]; simp [aP_]
  · intro a r b e h
    refine s2 e (List.mem_append_left _ ?_)
    rw [e, if_pos (show aG_ (aP_ a r b).b [33] ∈ l from h)]; simp [aP_]
  · intro a r b e h
    refine s1 e (List.mem_append_right _ (List.mem_flatMap.2 ⟨_, h, ?_⟩))
    rw [subB, if_neg (by rw [e]; simp [aP_, aG_])]
    refine List.mem_append_left _ ?_
    rw [e, if_pos (show (aG_ b [33]).b = [33] from rfl)]; simp [aP_]
  · intro z a hz hk e
    refine s1 e (List.mem_append_left _ (List.mem_flatMap.2 ⟨z, hz, ?_⟩))
    rw [e, if_neg (by rw [hk]; simp), if_neg (by rw [hk]; simp), if_neg (by rw [hk]; simp), if_pos ⟨hk, rfl⟩]; simp [aG_]
  · intro y h3 hy hk ha hr _ hl
    refine s3 h3 (List.mem_append_left _ (List.mem_flatMap.2 ⟨y, hy, ?_⟩))
    rw [lj_, if_neg (by simp [hk, ha, hr]), if_pos hl]; simp
  · intro y h3 hy hk ha hr _ hl
    refine s3 h3 (List.mem_append_left _ (List.mem_flatMap.2 ⟨y, hy, ?_⟩))
    rw [lj_, if_neg (by simp [hk, ha, hr]), if_neg (Int.not_le.2 hl)]; simp
  · intro z a lo hi hz hk e h1 h2
    refine s3 (by rw [e]; rfl) (List.mem_append_right _ (List.mem_flatMap.2 ⟨z, hz, ?_⟩))
    rw [e, nC_, if_pos ⟨hk, rfl, h1, h2⟩]; simp [aM_]
theorem sI_ {α β : Type} {g : α → List β} {n : Nat} : ∀ (l : List α), (∀ x ∈ l, (g x).length ≤ n) → (l.flatMap g).length ≤ l.length * n
  | [], _ => by simp
  | x :: l, h => by
    have := sI_ l fun y hy => h y (by simp [hy])
    have hx := h x (by simp)
    simp only [List.flatMap_cons, List.length_append, List.length_cons, Nat.add_mul, Nat.one_mul]
    omega
theorem mN_ (hF : ∀ y ∈ l, y.form) (y : Fc) : y ∈ iC_ p A ++ l.flatMap (fun f => fH_ p l f) ↔ fX_ p A (· ∈ l) y := by
  constructor
  · intro hy
    rcases List.mem_append.1 hy with hy | hy
    · rw [kY_] at hy; exact iQ_ y hy
    · obtain ⟨f, hf, hy⟩ := List.mem_flatMap.1 hy
      exact mi_ hf hF y hy
  · intro hy
    refine re_ (c := l) (good := fun y => y ∈ iC_ p A ++ l.flatMap (fun f => fH_ p l f)) (fun y hy => List.mem_append_left _ (by rw [kY_]; exact hy)) (fun f hf => ?_) hy
    exact nx_.up fun y hy => List.mem_append_right _ (List.mem_flatMap.2 ⟨f, hf, hy⟩)
end
def grow1 (p : List Pc) (A : List Str) (l : List Fc) : List Fc := (iC_ p A ++ l.flatMap (fun f => fH_ p l f)).foldl nV_ l
def hn_ (p : List Pc) (A : List Str) : Nat → List Fc
  | 0 => []
  | n + 1 => grow1 p A (hn_ p A n)
theorem jZ_ : ∀ (xs l : List Fc) (y : Fc), y ∈ xs.foldl nV_ l ↔ y ∈ l ∨ y ∈ xs
  | [], l, y => by simp
  | x :: xs, l, y => by
    rw [List.foldl_cons, jZ_ xs, qV_]
    simp only [List.mem_cons]
    constructor
    · rintro ((h | h) | h)
      · exact .inl h
      · exact .inr (.inl h)
      · exact .inr (.inr h)
    · rintro (h | h | h)
      · exact .inl (.inl h)
      · exact .inl (.inr h)
      · exact .inr h
theorem jY_ : ∀ (xs : List Fc) {l : List Fc}, Srt l → Srt (xs.foldl nV_ l)
  | [], _, h => h
  | x :: xs, _, h => jY_ xs (qU_ x h)
theorem kn_ (p : List Pc) (A : List Str) : ∀ n, Srt (hn_ p A n)
  | 0 => List.Pairwise.nil
  | n + 1 => jY_ _ (kn_ p A n)
theorem il_ {p : List Pc} {A : List Str} (hp : ∀ x ∈ p, x.vok) : ∀ n, ∀ y ∈ hn_ p A n, Der p A y
  | 0, y, hy => by simp [hn_] at hy
  | n + 1, y, hy => by
    have ih := il_ (A := A) hp n
    rcases (jZ_ _ _ y).1 hy with h | h
    · exact ih y h
    · exact Der.step (((mN_ (fun z hz => (ih z hz).form hp) y).1 h).mono (fun x hx => ⟨x, hx, x.frm, rfl⟩) (fun _ h => h) ih (fun _ _ h => h))
theorem im_ {p : List Pc} {A : List Str} (hp : ∀ x ∈ p, x.vok) (n m : Nat) (hc : ((iC_ p A ++ (hn_ p A n).flatMap (fun f => fH_ p (hn_ p A n) f)).all fun y => decide (y ∈ hn_ p A n)) = true) (hl : (hn_ p A n).length ≤ m) : cT_ p A m (some (hn_ p A n)) := by
  refine ⟨kn_ p A n, fun y => ⟨il_ hp n y, fun h => h.least fun z hz => ?_⟩, hl⟩
  exact of_decide_eq_true (List.all_eq_true.1 hc z ((mN_ (fun w hw => (il_ hp n w hw).form hp) z).2 hz))
theorem pM_ {p : List Pc} {A : List Str} (hp : ∀ x ∈ p, x.vok) (n m : Nat) (hl : m < (hn_ p A n).length) : cT_ p A m none := ⟨hn_ p A n, (kn_ p A n).nodup, il_ hp n, hl⟩
end Go.Vs
namespace Go.Sx
open Go Go.Vs
theorem mg_ {P : Program} {f : FuncId} {args : Array Value} {H : Hp} {Γ Γ0 : List Fct} {ι : Type} {ret : ι → Value} {H' : ι → Hp} (B : Hp) (hT : Tri P f args H Γ ret H' (fun _ => []))
    (hΓ : ∀ v : Vw, (∀ p ∈ B, v.im p.1 ∧ v.w.heap[p.1]? = some p.2) → aI_ Γ0 v → aI_ Γ v) : Tri P f args (B ++ H) Γ0 ret (fun x => B ++ H' x) (fun _ => []) := by
  refine ⟨hT.callable, fun v hs hv => ?_⟩
  have hnd := hs.nodup
  rw [List.map_append, List.nodup_append] at hnd
  have hlt : ∀ p ∈ B, p.1 < v.w.heap.size := fun p hp => (Array.getElem?_eq_some_iff.1 (hs.own p (List.mem_append_left _ hp)).1).1
  have h1 : (⟨fun b => v.im b ∨ b ∈ B.map Prod.fst, v.w, v.sl⟩ : Vw).sat H := by
    refine ⟨fun p hp => ⟨(hs.own p (List.mem_append_right _ hp)).1, fun hi => ?_⟩, hnd.2.1, fun b hb => ?_⟩
    · rcases hi with hi | hi
      · exact (hs.own p (List.mem_append_right _ hp)).2 hi
      · exact hnd.2.2 _ hi _ (List.mem_map_of_mem hp) rfl
    · rcases hb with hb | hb
      · exact hs.lt b hb
      · obtain ⟨p, hp, rfl⟩ := List.mem_map.1 hb
        exact hlt p hp
  have hle : v.le ⟨fun b => v.im b ∨ b ∈ B.map Prod.fst, v.w, v.sl⟩ := ⟨fun b h => .inl h, fun _ _ => rfl, rfl⟩
  have h2 := hΓ ⟨fun b => v.im b ∨ b ∈ B.map Prod.fst, v.w, v.sl⟩ (fun p hp => ⟨.inr (List.mem_map_of_mem hp), (hs.own p (List.mem_append_left _ hp)).1⟩) (bC_ hle hv)
  refine (hT.run _ h1 h2).mono ?_
  rintro e w' ⟨x, v', rfl, rfl, g1, _, g3⟩
  have hB : ∀ b, b ∈ B.map Prod.fst → v'.im b := fun b hb => g3.imUp b (.inr hb)
  refine ⟨x, ⟨fun b => v'.im b ∧ b ∉ B.map Prod.fst, v'.w, v'.sl⟩, rfl, rfl, ⟨fun p hp => ?_, ?_, fun b hb => g1.lt b hb.1⟩, trivial, ?_⟩
  · rcases List.mem_append.1 hp with hp | hp
    · refine ⟨?_, fun h => h.2 (List.mem_map_of_mem hp)⟩
      have := (g3.le h1).block p.1 (.inr (List.mem_map_of_mem hp))
      exact this.trans (hs.own p (List.mem_append_left _ hp)).1
    · exact ⟨(g1.own p hp).1, fun h => (g1.own p hp).2 h.1⟩
  · rw [List.map_append, List.nodup_append]
    refine ⟨hnd.1, g1.nodup, fun a ha b hb e => ?_⟩
    subst e
    obtain ⟨p, hp, rfl⟩ := List.mem_map.1 hb
    exact (g1.own p hp).2 (hB _ ha)
  · refine ⟨g3.os, g3.tape, g3.output, g3.size, fun b hb hn => g3.block b hb (fun hm => hn ?_), fun b hb => ⟨g3.imUp b (.inl hb), fun hm => ?_⟩, fun b hb => ?_, fun b hb => ?_, g3.sl, g3.dr⟩
    · rw [List.map_append]; exact List.mem_append_right _ hm
    · obtain ⟨p, hp, rfl⟩ := List.mem_map.1 hm
      exact (hs.own p (List.mem_append_left _ hp)).2 hb
    · rcases g3.imNew b hb.1 with (h | h) | h | h
      · exact .inl h
      · exact absurd h hb.2
      · exact .inr (.inl (by rw [List.map_append]; exact List.mem_append_right _ h))
      · exact .inr (.inr h)
    · rw [List.map_append] at hb ⊢
      rcases List.mem_append.1 hb with h | h
      · exact .inl (List.mem_append_left _ h)
      · exact (g3.hNew b h).imp (List.mem_append_right _) id
structure KeyT (P : Program) (kt : TypeId) {K : Type} [DecidableEq K] (kv : K → Value) : Prop where
  ok : ∀ k, hs_ P kt (kv k)
  nf : ∀ (k : K) (es : List MapEntry) (ks : List K), es.map (·.key) = ks.map kv → k ∉ ks → dX_ P kt (kv k) es none
  sf : ∀ (k : K) (es : List MapEntry) (ks : List K) (i : Nat) (e : MapEntry), es.map (·.key) = ks.map kv → ks.Nodup → ks[i]? = some k → es[i]? = some e → dX_ P kt (kv k) es (some (i, e.val))
  same : ∀ k, Instr.sameBits 10000 (kv k) (kv k) = true
section
variable {P : Program}
theorem kp_ (a b : List UInt8) : ((⟨a.toArray⟩ : ByteArray) == ⟨b.toArray⟩) = decide (a = b) := by
  show (a.toArray == b.toArray) = _
  rw [Bool.eq_iff_iff]
  simp
theorem qL_ {kt : TypeId} (hu : P.underlying kt = some .string) : KeyT P kt str where
  ok := fun k e w => by
    have key : ∀ m, (Instr.checkKey e (m + 1) kt (str k)).run P w = .ok () w := fun m => by simp [Instr.checkKey, run_underlying hu, str]
    exact key 9999
  nf := fun k es ks h hk => bu_ hu (by
    have : ∀ (ks : List Str) (es : List MapEntry) (i : Nat), es.map (·.key) = ks.map str → k ∉ ks → Instr.findNow .string (str k) es i = some none := by
      intro ks
      induction ks with
      | nil => intro es i h _; have : es = [] := by simpa using h
               subst this; rfl
      | cons q ks ih =>
        intro es i h hk
        cases es with
        | nil => simp at h
        | cons e es =>
          simp only [List.map_cons, List.cons.injEq] at h
          simp only [List.mem_cons, not_or] at hk
          have hs : Instr.sameNow .string (str k) e.key = some false := by
            rw [h.1]
            show some ((⟨k.toArray⟩ : ByteArray) == ⟨q.toArray⟩) = some false
            rw [kp_, decide_eq_false hk.1]
          simp only [Instr.findNow, hs]
          exact ih es (i + 1) h.2 hk.2
    exact this ks es 0 h hk)
  sf := fun k es ks i e h hn hi he => bu_ hu (by
    have : ∀ (ks : List Str) (es : List MapEntry) (j i : Nat), es.map (·.key) = ks.map str → ks.Nodup → ks[i]? = some k → es[i]? = some e → Instr.findNow .string (str k) es j = some (some (j + i, e.val)) := by
      intro ks
      induction ks with
      | nil => intro es j i _ _ h; simp at h
      | cons q ks ih =>
        intro es j i h hn hi he
        cases es with
        | nil => simp at h
        | cons x es =>
          simp only [List.map_cons, List.cons.injEq] at h
          rw [List.nodup_cons] at hn
          cases i with
          | zero =>
            simp only [List.getElem?_cons_zero, Option.some.injEq] at hi he
            subst hi; subst he
            have hs : Instr.sameNow .string (str q) x.key = some true := by
              rw [h.1]
              show some ((⟨q.toArray⟩ : ByteArray) == ⟨q.toArray⟩) = some true
              rw [kp_, decide_eq_true rfl]
            simp only [Instr.findNow, hs, Nat.add_zero]
          | succ i =>
            simp only [List.getElem?_cons_succ] at hi he
            have hne : k ≠ q := fun e => hn.1 (e ▸ List.mem_of_getElem? hi)
            have hs : Instr.sameNow .string (str k) x.key = some false := by
              rw [h.1]
              show some ((⟨k.toArray⟩ : ByteArray) == ⟨q.toArray⟩) = some false
              rw [kp_, decide_eq_false hne]
            simp only [Instr.findNow, hs]
            rw [ih es (j + 1) i h.2 hn.2 hi he, show j + 1 + i = j + (i + 1) by omega]
    have := this ks es 0 i h hn hi he
    rwa [Nat.zero_add] at this)
  same := fun k => by
    have key : ∀ m, Instr.sameBits m (str k) (str k) = true := fun m => by
      cases m <;> (show ((⟨k.toArray⟩ : ByteArray) == ⟨k.toArray⟩) = true; rw [kp_, decide_eq_true rfl])
    exact key 10000
theorem fx_ {K : Type} [DecidableEq K] {kt : TypeId} {fs : Array Field} {kv : K → Value} (hu : P.underlying kt = some (.struct fs)) (hok : ∀ k, hs_ P kt (kv k)) (heq : ∀ p q w, (Op.equal kt (kv p) (kv q)).run P w = .ok (decide (p = q)) w) (hsame : ∀ k, Instr.sameBits 10000 (kv k) (kv k) = true) : KeyT P kt kv where
  ok := hok
  nf := fun k es ks h hk => (gs_ hu heq k ks es h).1 hk
  sf := fun k es ks i e h hn hi he => by
    have key : ∀ (ks : List K) (es : List MapEntry) (j i : Nat), es.map (·.key) = ks.map kv → ks.Nodup → ks[i]? = some k → es[i]? = some e → ∀ w, (Instr.findAsking kt (kv k) es j).run P w = .ok (some (j + i, e.val)) w := by
      intro ks
      induction ks with
      | nil => intro es j i _ _ h; simp at h
      | cons q ks ih =>
        intro es j i h hn hi he w
        cases es with
        | nil => simp at h
        | cons x es =>
          simp only [List.map_cons, List.cons.injEq] at h
          rw [List.nodup_cons] at hn
          cases i with
          | zero =>
            simp only [List.getElem?_cons_zero, Option.some.injEq] at hi he
            subst hi; subst he
            simp only [Instr.findAsking, Sem.run_bind, h.1, heq, Result.andThen_ok, decide_true, if_true, Sem.run_pure, Nat.add_zero]
          | succ i =>
            simp only [List.getElem?_cons_succ] at hi he
            have hne : k ≠ q := fun e => hn.1 (e ▸ List.mem_of_getElem? hi)
            simp only [Instr.findAsking, Sem.run_bind, h.1, heq, Result.andThen_ok, hne, decide_false, Bool.false_eq_true, if_false]
            rw [ih es (j + 1) i h.2 hn.2 hi he w, show j + 1 + i = j + (i + 1) by omega]
    intro w
    have hnow : ∀ (x : MapEntry) (r : List MapEntry), Instr.findNow (.struct fs) (kv k) (x :: r) 0 = none := fun x r => by simp [Instr.findNow, Instr.sameNow]
    cases es with
    | nil => simp at he
    | cons x r =>
      simp only [Instr.findKey, Sem.run_bind, run_underlying hu, Result.andThen_ok, hnow]
      have := key ks (x :: r) 0 i h hn hi he w
      rwa [Nat.zero_add] at this
  same := hsame
end
theorem es_ (n : Nat) {k : IntKind} (i : Int) : Instr.sameBits n (.int k i) (.int k i) = true := by
  cases n <;> simp [Instr.sameBits]
theorem dv_ (n : Nat) (s : List UInt8) : Instr.sameBits n (str s) (str s) = true := by
  cases n <;> (show ((⟨s.toArray⟩ : ByteArray) == ⟨s.toArray⟩) = true; rw [kp_, decide_eq_true rfl])
theorem hQ_ {n : Nat} {l : List Value} (h : ∀ v ∈ l, Instr.sameBits n v v = true) : Instr.sameBits (n + 1) (.agg l.toArray) (.agg l.toArray) = true := by
  simp only [Instr.sameBits, BEq.rfl, Bool.true_and, List.all_eq_true]
  intro p hp
  have : ∀ (l : List Value), (∀ v ∈ l, Instr.sameBits n v v = true) → ∀ p ∈ l.zip l, Instr.sameBits n p.1 p.2 = true := by
    intro l
    induction l with
    | nil => intro _ p hp; simp at hp
    | cons a l ih =>
      intro h p hp
      simp only [List.zip_cons_cons, List.mem_cons] at hp
      rcases hp with rfl | hp
      · exact h a (by simp)
      · exact ih (fun v hv => h v (by simp [hv])) p hp
  exact this l h p hp
structure Born (es : Array MapEntry) (c : Nat) : Prop where
  lt : ∀ x ∈ es.toList, x.born < c
  nd : (es.toList.map (·.born)).Nodup
theorem Born.nil (c : Nat) : Born #[] c := ⟨by simp, by simp⟩
theorem Born.push {es : Array MapEntry} {c : Nat} (h : Born es c) (key val : Value) : Born (es.push ⟨key, val, c⟩) (c + 1) := by
  refine ⟨fun x hx => ?_, ?_⟩
  · rw [Array.toList_push, List.mem_append] at hx
    rcases hx with hx | hx
    · exact Nat.lt_succ_of_lt (h.lt x hx)
    · rw [List.mem_singleton] at hx; rw [hx]; exact Nat.lt_succ_self _
  · rw [Array.toList_push, List.map_append, List.nodup_append]
    refine ⟨h.nd, by simp, fun a ha b hb e => ?_⟩
    obtain ⟨x, hx, rfl⟩ := List.mem_map.1 ha
    simp at hb
    have := h.lt x hx
    omega
theorem Born.modify {es : Array MapEntry} {c : Nat} (h : Born es c) (i : Nat) (f : MapEntry → MapEntry) (hf : ∀ e, (f e).born = e.born) : Born (es.modify i f) c := by
  have hb : (es.modify i f).toList.map (·.born) = es.toList.map (·.born) := by
    apply List.ext_getElem?
    intro j
    simp only [List.getElem?_map, Array.getElem?_toList, Array.getElem?_modify]
    split
    · cases es[j]? <;> simp [hf]
    · rfl
  refine ⟨fun x hx => ?_, by rw [hb]; exact h.nd⟩
  have : x.born ∈ (es.modify i f).toList.map (·.born) := List.mem_map_of_mem hx
  rw [hb] at this
  obtain ⟨y, hy, e⟩ := List.mem_map.1 this
  rw [← e]; exact h.lt y hy
theorem Born.find {es : Array MapEntry} {c i : Nat} {x : MapEntry} (h : Born es c) (hx : es[i]? = some x) : es.findIdx? (fun e => (e.born : Int) == (x.born : Int)) = some i := by
  rw [Array.findIdx?_eq_some_iff_getElem]
  obtain ⟨hi, rfl⟩ := Array.getElem?_eq_some_iff.1 hx
  refine ⟨hi, by simp, fun j hj => ?_⟩
  simp only [beq_eq_false_iff_ne, ne_eq, Bool.not_eq_true]
  intro e
  have hji : j < es.size := Nat.lt_trans hj hi
  have := h.nd
  rw [List.nodup_iff_pairwise_ne, List.pairwise_iff_getElem] at this
  have := this j i (by simpa using hji) (by simpa using hi) hj
  simp at this
  exact this (by exact_mod_cast e)
section
variable {K D : Type} [DecidableEq K] (kv : K → Value) (cells : D → List Value) (e : TypeId) (sz : Nat) (l : List (K × D))
def fY_ : List K → List MapEntry → Hp → Prop
  | [], [], H => H = []
  | k :: ks, x :: es, H => ∃ Hk Hr, H = Hk ++ Hr ∧ x.key = kv k ∧ bk_ e sz x.val (lat l k).length ((lat l k).flatMap cells) Hk ∧ fY_ ks es Hr
  | _, _, _ => False
def dH_ (mb : Nat) (H : Hp) : Prop := ∃ ks es c Hr, H = (mb, .map es c) :: Hr ∧ ks.Nodup ∧ (∀ x ∈ l, x.1 ∈ ks) ∧ fY_ kv cells e sz l ks es.toList Hr ∧ Born es c
end
section
variable {K D : Type} [DecidableEq K] {kv : K → Value} {cells : D → List Value} {e : TypeId} {sz : Nat} {l : List (K × D)}
theorem fY_.keys : ∀ {ks : List K} {es : List MapEntry} {H : Hp}, fY_ kv cells e sz l ks es H → es.map (·.key) = ks.map kv
  | [], [], _, _ => rfl
  | k :: ks, x :: es, _, h => by
    obtain ⟨Hk, Hr, _, h1, _, h2⟩ := h
    simp [h1, h2.keys]
  | [], _ :: _, _, h => h.elim
  | _ :: _, [], _, h => h.elim
theorem fY_.congr {l' : List (K × D)} : ∀ {ks : List K} {es : List MapEntry} {H : Hp}, (∀ k ∈ ks, lat l' k = lat l k) → fY_ kv cells e sz l ks es H → fY_ kv cells e sz l' ks es H
  | [], [], _, _, h => h
  | k :: ks, x :: es, _, hl, h => by
    obtain ⟨Hk, Hr, h0, h1, h2, h3⟩ := h
    exact ⟨Hk, Hr, h0, h1, by rw [hl k (by simp)]; exact h2, h3.congr fun q hq => hl q (by simp [hq])⟩
  | [], _ :: _, _, _, h => h.elim
  | _ :: _, [], _, _, h => h.elim
theorem fY_.get : ∀ {ks : List K} {es : List MapEntry} {H : Hp} {i : Nat} {k : K}, fY_ kv cells e sz l ks es H → ks.Nodup → ks[i]? = some k → ∃ x Hk Hr, es[i]? = some x ∧ H.Perm (Hk ++ Hr) ∧ x.key = kv k ∧ bk_ e sz x.val (lat l k).length ((lat l k).flatMap cells) Hk ∧
      ∀ (l' : List (K × D)) (y : MapEntry) (Hk' : Hp), y.key = kv k → (∀ q, q ≠ k → lat l' q = lat l q) → bk_ e sz y.val (lat l' k).length ((lat l' k).flatMap cells) Hk' → ∃ H', fY_ kv cells e sz l' ks (es.set i y) H' ∧ H'.Perm (Hk' ++ Hr)
  | [], _, _, _, _, _, _, h => by simp at h
  | _ :: _, [], _, _, _, h, _, _ => h.elim
  | q :: ks, x :: es, H, 0, k, h, hn, hi => by
    simp only [List.getElem?_cons_zero, Option.some.injEq] at hi
    subst hi
    rw [List.nodup_cons] at hn
    obtain ⟨Hk, Hr, h0, h1, h2, h3⟩ := h
    exact ⟨x, Hk, Hr, rfl, h0 ▸ .refl _, h1, h2, fun l' y Hk' g1 g2 g3 => ⟨Hk' ++ Hr, ⟨Hk', Hr, rfl, g1, g3, h3.congr fun z hz => g2 z (fun e => hn.1 (e ▸ hz))⟩, .refl _⟩⟩
  | q :: ks, x :: es, H, i + 1, k, h, hn, hi => by
    simp only [List.getElem?_cons_succ] at hi
    rw [List.nodup_cons] at hn
    obtain ⟨Hq, Ho, h0, h1, h2, h3⟩ := h
    obtain ⟨y, Hk, Hr, i1, i2, i3, i4, i5⟩ := h3.get hn.2 hi
    have hne : q ≠ k := fun e => hn.1 (e ▸ List.mem_of_getElem? hi)
    refine ⟨y, Hk, Hq ++ Hr, i1, ?_, i3, i4, fun l' z Hk' g1 g2 g3 => ?_⟩
    · rw [h0]
      refine (List.Perm.append_left Hq i2).trans ?_
      rw [← List.append_assoc, ← List.append_assoc]
      exact List.perm_append_comm.append_right _
    · obtain ⟨H', j1, j2⟩ := i5 l' z Hk' g1 g2 g3
      refine ⟨Hq ++ H', ⟨Hq, H', rfl, h1, by rw [g2 q hne]; exact h2, j1⟩, (List.Perm.append_left Hq j2).trans ?_⟩
      rw [← List.append_assoc, ← List.append_assoc]
      exact List.perm_append_comm.append_right _
theorem fY_.push : ∀ {ks : List K} {es : List MapEntry} {H : Hp} {k : K} {x : MapEntry} {Hk : Hp}, fY_ kv cells e sz l ks es H → x.key = kv k → bk_ e sz x.val (lat l k).length ((lat l k).flatMap cells) Hk → fY_ kv cells e sz l (ks ++ [k]) (es ++ [x]) (H ++ Hk)
  | [], [], _, k, x, Hk, h, h1, h2 => by subst h; exact ⟨Hk, [], by simp, h1, h2, rfl⟩
  | q :: ks, y :: es, _, k, x, Hk, h, h1, h2 => by
    obtain ⟨Hq, Hr, rfl, g1, g2, g3⟩ := h
    exact ⟨Hq, Hr ++ Hk, by simp, g1, g2, g3.push h1 h2⟩
  | [], _ :: _, _, _, _, _, h, _, _ => h.elim
  | _ :: _, [], _, _, _, _, h, _, _ => h.elim
theorem hg_ {k q : K} {d : D} (h : q ≠ k) : lat (l ++ [(k, d)]) q = lat l q := by
  rw [jT_]; simp [lat, Ne.symm h]
theorem cZ_ {k : K} {d : D} : lat (l ++ [(k, d)]) k = lat l k ++ [d] := by
  rw [jT_]; simp [lat]
theorem dH_.open {P : Program} {kt : TypeId} (hK : KeyT P kt kv) {mb : Nat} {H : Hp} (h : dH_ kv cells e sz l mb H) (k : K) :
    ∃ es c sv Hk Hr, H.Perm ((mb, .map es c) :: (Hk ++ Hr)) ∧ bk_ e sz sv (lat l k).length ((lat l k).flatMap cells) Hk ∧
      ((dX_ P kt (kv k) es.toList none ∧ sv = .slice none 0 0 ∧ ∀ d sv' Hk', bk_ e sz sv' (lat (l ++ [(k, d)]) k).length ((lat (l ++ [(k, d)]) k).flatMap cells) Hk' → ∃ H', dH_ kv cells e sz (l ++ [(k, d)]) mb H' ∧ H'.Perm ((mb, .map (es.push ⟨kv k, sv', c⟩) (c + 1)) :: (Hk' ++ Hr))) ∨
       (∃ i x, dX_ P kt (kv k) es.toList (some (i, sv)) ∧ es[i]? = some x ∧ x.key = kv k ∧ x.val = sv ∧ ∀ d sv' Hk', bk_ e sz sv' (lat (l ++ [(k, d)]) k).length ((lat (l ++ [(k, d)]) k).flatMap cells) Hk' → ∃ H', dH_ kv cells e sz (l ++ [(k, d)]) mb H' ∧ H'.Perm ((mb, .map (es.modify i fun y => { y with key := kv k, val := sv' }) c) :: (Hk' ++ Hr)))) := by
  obtain ⟨ks, es, c, Ho, rfl, hn, hl, hm, hbn⟩ := h
  by_cases hk : k ∈ ks
  · obtain ⟨i, hi⟩ := List.getElem?_of_mem hk
    obtain ⟨x, Hk, Hr, g1, g2, g3, g4, g5⟩ := hm.get hn hi
    have hx : es[i]? = some x := by rw [← Array.getElem?_toList]; exact g1
    refine ⟨es, c, x.val, Hk, Hr, .cons _ g2, g4, .inr ⟨i, x, hK.sf k es.toList ks i x hm.keys hn hi g1, hx, g3, rfl, fun d sv' Hk' hs => ?_⟩⟩
    obtain ⟨H', j1, j2⟩ := g5 (l ++ [(k, d)]) { x with key := kv k, val := sv' } Hk' rfl (fun q hq => hg_ hq) hs
    refine ⟨(mb, .map (es.modify i fun y => { y with key := kv k, val := sv' }) c) :: H', ⟨ks, _, c, H', rfl, hn, fun y hy => ?_, ?_, hbn.modify i _ fun _ => rfl⟩, .cons _ j2⟩
    · rcases List.mem_append.1 hy with hy | hy
      · exact hl y hy
      · simp at hy; rw [hy]; exact hk
    · have e1 : (es.modify i fun y => { y with key := kv k, val := sv' }).toList = es.toList.set i { x with key := kv k, val := sv' } := by
        apply List.ext_getElem?
        intro j
        rw [Array.getElem?_toList, Array.getElem?_modify, List.getElem?_set, Array.getElem?_toList]
        by_cases hij : i = j
        · subst hij
          have hlt : i < es.toList.length := (List.getElem?_eq_some_iff.1 g1).1
          simp only [if_true, hx, Option.map_some, if_pos hlt]
        · simp [hij]
      rw [e1]; exact j1
  · have hlat : lat l k = [] := by
      apply List.eq_nil_iff_forall_not_mem.2
      intro d hd
      exact hk (hl _ (da_.1 hd))
    refine ⟨es, c, .slice none 0 0, [], Ho, .refl _, by rw [hlat]; exact bk_.nil _ _, .inl ⟨hK.nf k es.toList ks hm.keys hk, rfl, fun d sv' Hk' hs => ?_⟩⟩
    refine ⟨(mb, .map (es.push ⟨kv k, sv', c⟩) (c + 1)) :: (Ho ++ Hk'), ⟨ks ++ [k], _, _, _, rfl, ?_, fun y hy => ?_, ?_, hbn.push _ _⟩, .cons _ List.perm_append_comm⟩
    · rw [List.nodup_append]; exact ⟨hn, by simp, fun a ha b hb e => by simp at hb; subst hb; subst e; exact hk ha⟩
    · rcases List.mem_append.1 hy with hy | hy
      · exact List.mem_append_left _ (hl y hy)
      · simp at hy; simp [hy]
    · rw [Array.toList_push]
      exact (hm.congr fun q hq => hg_ (fun (e : q = k) => hk (e ▸ hq))).push rfl hs
structure MOpn (kv : K → Value) (cells : D → List Value) (e : TypeId) (sz : Nat) (l : List (K × D)) (mb : Nat) (k : K) (es : Array MapEntry) (c i : Nat) (st : Int) (Hr : Hp) : Prop where
  find : es.findIdx? (fun x => (x.born : Int) == st) = some i
  close : ∀ d sv' Hk', bk_ e sz sv' (lat (l ++ [(k, d)]) k).length ((lat (l ++ [(k, d)]) k).flatMap cells) Hk' → ∃ H', dH_ kv cells e sz (l ++ [(k, d)]) mb H' ∧ H'.Perm ((mb, .map (es.modify i fun y => { y with val := sv' }) c) :: (Hk' ++ Hr))
theorem nM_ {es : Array MapEntry} {i : Nat} {x : MapEntry} {key : Value} (hx : es[i]? = some x) (hk : x.key = key) : (es.modify i fun y => { y with key := key }) = es := by
  apply Array.ext_getElem?
  intro j
  rw [Array.getElem?_modify]
  by_cases hij : i = j
  · subst hij; rw [if_pos rfl, hx]; simp only [Option.map_some]; rw [← hk]
  · rw [if_neg hij]
theorem dH_.entry {P : Program} {kt : TypeId} (hK : KeyT P kt kv) {mb : Nat} {H : Hp} (h : dH_ kv cells e sz l mb H) (k : K) :
    ∃ es c es' c' i st sv Hk Hr, H.Perm ((mb, .map es c) :: (Hk ++ Hr)) ∧ bk_ e sz sv (lat l k).length ((lat l k).flatMap cells) Hk ∧ MOpn kv cells e sz l mb k es' c' i st Hr ∧
      ((dX_ P kt (kv k) es.toList none ∧ sv = .slice none 0 0 ∧ es' = es.push ⟨kv k, .slice none 0 0, c⟩ ∧ c' = c + 1 ∧ st = (c : Int)) ∨ (∃ j x, dX_ P kt (kv k) es.toList (some (j, sv)) ∧ es[j]? = some x ∧ x.key = kv k ∧ es' = es ∧ c' = c ∧ st = (x.born : Int))) := by
  have h0 := h
  obtain ⟨ks, es, c, Ho, rfl, hn, hl, hm, hbn⟩ := h0
  by_cases hk : k ∈ ks
  · obtain ⟨i, hi⟩ := List.getElem?_of_mem hk
    obtain ⟨x, Hk, Hr, g1, g2, g3, g4, g5⟩ := hm.get hn hi
    have hx : es[i]? = some x := by rw [← Array.getElem?_toList]; exact g1
    refine ⟨es, c, es, c, i, x.born, x.val, Hk, Hr, .cons _ g2, g4, ⟨hbn.find hx, fun d sv' Hk' hs => ?_⟩, .inr ⟨i, x, hK.sf k es.toList ks i x hm.keys hn hi g1, hx, g3, rfl, rfl, rfl⟩⟩
    obtain ⟨H', j1, j2⟩ := g5 (l ++ [(k, d)]) { x with key := kv k, val := sv' } Hk' rfl (fun q hq => hg_ hq) hs
    refine ⟨(mb, .map (es.modify i fun y => { y with val := sv' }) c) :: H', ⟨ks, _, c, H', rfl, hn, fun y hy => ?_, ?_, hbn.modify i _ fun _ => rfl⟩, .cons _ j2⟩
    · rcases List.mem_append.1 hy with hy | hy
      · exact hl y hy
      · simp at hy; rw [hy]; exact hk
    · have e1 : (es.modify i fun y => { y with val := sv' }).toList = es.toList.set i { x with key := kv k, val := sv' } := by
        apply List.ext_getElem?
        intro j
        rw [Array.getElem?_toList, Array.getElem?_modify, List.getElem?_set, Array.getElem?_toList]
        by_cases hij : i = j
        · subst hij
          have hlt : i < es.toList.length := (List.getElem?_eq_some_iff.1 g1).1
          simp only [if_true, hx, Option.map_some, if_pos hlt]
          rw [← g3]
        · simp [hij]
      rw [e1]; exact j1
  · have hlat : lat l k = [] := by
      apply List.eq_nil_iff_forall_not_mem.2
      intro d hd
      exact hk (hl _ (da_.1 hd))
    have hb2 := hbn.push (kv k) (.slice none 0 0)
    have hget : (es.push ⟨kv k, .slice none 0 0, c⟩)[es.size]? = some ⟨kv k, .slice none 0 0, c⟩ := by simp
    refine ⟨es, c, es.push ⟨kv k, .slice none 0 0, c⟩, c + 1, es.size, (c : Int), .slice none 0 0, [], Ho, .refl _, by rw [hlat]; exact bk_.nil _ _, ⟨hb2.find hget, fun d sv' Hk' hs => ?_⟩, .inl ⟨hK.nf k es.toList ks hm.keys hk, rfl, rfl, rfl, rfl⟩⟩
    have e2 : ((es.push ⟨kv k, .slice none 0 0, c⟩).modify es.size fun y => { y with val := sv' }) = es.push ⟨kv k, sv', c⟩ := by
      apply Array.ext_getElem?
      intro j
      rw [Array.getElem?_modify, Array.getElem?_push, Array.getElem?_push]
      by_cases hj : j = es.size
      · subst hj; simp
      · rw [if_neg (fun q => hj q.symm), if_neg hj, if_neg hj]
    rw [e2]
    refine ⟨(mb, .map (es.push ⟨kv k, sv', c⟩) (c + 1)) :: (Ho ++ Hk'), ⟨ks ++ [k], _, _, _, rfl, ?_, fun y hy => ?_, ?_, hbn.push _ _⟩, .cons _ List.perm_append_comm⟩
    · rw [List.nodup_append]; exact ⟨hn, by simp, fun a ha b hb e => by simp at hb; subst hb; subst e; exact hk ha⟩
    · rcases List.mem_append.1 hy with hy | hy
      · exact List.mem_append_left _ (hl y hy)
      · simp at hy; simp [hy]
    · rw [Array.toList_push]
      exact (hm.congr fun q hq => hg_ (fun (e : q = k) => hk (e ▸ hq))).push rfl hs
theorem dH_.nil (mb : Nat) (c : Nat) : dH_ kv cells e sz ([] : List (K × D)) mb [(mb, .map #[] c)] := ⟨[], #[], c, [], rfl, List.nodup_nil, by simp, rfl, Born.nil c⟩
def mlF (P : Program) (kt : TypeId) (kv : K → Value) (cells : D → List Value) (mb : Nat) (l : List (K × D)) (adr : K → Option Addr × Nat) : Fct where
  p := fun v => v.im mb ∧ ∃ es c, v.w.heap[mb]? = some (.map es c) ∧ ∀ k, ca_ v (adr k).1 ((lat l k).flatMap cells) ∧
    ((dX_ P kt (kv k) es.toList none ∧ Value.slice (adr k).1 (lat l k).length (adr k).2 = .slice none 0 0) ∨ ∃ i, dX_ P kt (kv k) es.toList (some (i, .slice (adr k).1 (lat l k).length (adr k).2)))
  mono := fun v v' h ⟨h1, es, c, h2, h3⟩ => ⟨h.imUp mb h1, es, c, by rw [h.block mb h1]; exact h2, fun k => ⟨(aS_ _ _).mono v v' h (h3 k).1, (h3 k).2⟩⟩
theorem bI_ {P : Program} {kt : TypeId} {mb : Nat} {adr : K → Option Addr × Nat} {v : Vw} (h : (mlF P kt kv cells mb l adr).p v) (k : K) : ca_ v (adr k).1 ((lat l k).flatMap cells) := by
  obtain ⟨_, _, _, _, h⟩ := h
  exact (h k).1
theorem oX_ {sv : Value} {n : Nat} {xs : List Value} {Hr : Hp} {v : Vw} (h : bk_ e sz sv n xs Hr) (hv : ∀ p ∈ Hr, v.im p.1 ∧ v.w.heap[p.1]? = some p.2) : ∃ ad cap, sv = .slice ad n cap ∧ n ≤ cap ∧ cap ≤ maxLen ∧ (n ≠ 0 → ∃ b, ad = some ⟨b, 0, none⟩) ∧ ca_ v ad xs := by
  rcases h.2 with ⟨rfl, rfl, rfl⟩ | ⟨g, cap, cur, rfl, rfl, h3, h4, h5, h6⟩
  · have : xs = [] := List.eq_nil_of_length_eq_zero (by simpa using h.1)
    exact ⟨none, 0, rfl, Nat.le_refl _, by simp [maxLen], fun h => absurd rfl h, .inl this⟩
  · obtain ⟨g1, g2⟩ := hv _ (List.mem_singleton.2 rfl)
    refine ⟨some ⟨g, 0, none⟩, cap, rfl, h3, h4, fun _ => ⟨g, rfl⟩, .inr ⟨g, 0, cur, e, (0, 0), rfl, g1, g2, fun j x hj => ?_⟩⟩
    rw [← h6, List.getElem?_take] at hj
    split at hj
    · rw [Nat.zero_add, ← Array.getElem?_toList]; exact hj
    · cases hj
theorem dH_.lent {P : Program} {kt : TypeId} (hK : KeyT P kt kv) {mb : Nat} {H : Hp} (h : dH_ kv cells e sz l mb H) : ∃ adr, ∀ v : Vw, (∀ p ∈ H, v.im p.1 ∧ v.w.heap[p.1]? = some p.2) → (mlF P kt kv cells mb l adr).p v := by
  have h0 := h
  obtain ⟨ks, es, c, Ho, rfl, hn, hl, hm, _⟩ := h0
  have key : ∀ k, ∃ q : Option Addr × Nat, ∀ v : Vw, (∀ p ∈ (mb, Obj.map es c) :: Ho, v.im p.1 ∧ v.w.heap[p.1]? = some p.2) → ca_ v q.1 ((lat l k).flatMap cells) ∧ ((dX_ P kt (kv k) es.toList none ∧ Value.slice q.1 (lat l k).length q.2 = .slice none 0 0) ∨ ∃ i, dX_ P kt (kv k) es.toList (some (i, .slice q.1 (lat l k).length q.2))) := fun k => by
    by_cases hk : k ∈ ks
    · obtain ⟨i, hi⟩ := List.getElem?_of_mem hk
      obtain ⟨x, Hk, Hr, g1, g2, g3, g4, _⟩ := hm.get hn hi
      have hf := hK.sf k es.toList ks i x hm.keys hn hi g1
      have hsl : ∃ ad cap, x.val = .slice ad (lat l k).length cap := by
        rcases g4.2 with ⟨q1, q2, _⟩ | ⟨g, cap, cur, q1, _⟩
        · exact ⟨none, 0, by rw [q1, q2]⟩
        · exact ⟨_, cap, q1⟩
      obtain ⟨ad, cap, hx⟩ := hsl
      refine ⟨(ad, cap), fun v hv => ⟨?_, .inr ⟨i, by rw [← hx]; exact hf⟩⟩⟩
      obtain ⟨ad', cap', e1, _, _, _, hr⟩ := oX_ g4 fun p hp => hv p (List.mem_cons_of_mem _ (g2.mem_iff.2 (List.mem_append_left _ hp)))
      rw [hx] at e1
      simp only [Value.slice.injEq] at e1
      rw [e1.1]; exact hr
    · have hlat : lat l k = [] := by
        apply List.eq_nil_iff_forall_not_mem.2
        intro d hd
        exact hk (hl _ (da_.1 hd))
      exact ⟨(none, 0), fun v hv => ⟨.inl (by rw [hlat]; rfl), .inl ⟨hK.nf k es.toList ks hm.keys hk, by rw [hlat]; rfl⟩⟩⟩
  refine ⟨fun k => (key k).choose, fun v hv => ?_⟩
  obtain ⟨g1, g2⟩ := hv _ List.mem_cons_self
  exact ⟨g1, es, c, g2, fun k => (key k).choose_spec v hv⟩
end
section
variable {P : Program} {K : Type} [DecidableEq K] {kv : K → Value} {kt : TypeId}
structure SetE (kv : K → Value) (es : Array MapEntry) (q : List K) : Prop where
  keys : es.toList.map (·.key) = q.map kv
  vals : ∀ x ∈ es.toList, x.val = .bool true
  nd : q.Nodup
theorem SetE.nil : SetE kv #[] ([] : List K) := ⟨rfl, by simp, List.nodup_nil⟩
theorem SetE.size {es : Array MapEntry} {q : List K} (h : SetE kv es q) : es.size = q.length := by
  have := congrArg List.length h.keys
  simpa using this
theorem SetE.yes (hK : KeyT P kt kv) {es : Array MapEntry} {q : List K} (h : SetE kv es q) {k : K} (hk : k ∈ q) : ∃ i x, q[i]? = some k ∧ es[i]? = some x ∧ x.key = kv k ∧ x.val = .bool true ∧ dX_ P kt (kv k) es.toList (some (i, .bool true)) := by
  obtain ⟨i, hi⟩ := List.getElem?_of_mem hk
  have hlt : i < es.toList.length := by
    have := (List.getElem?_eq_some_iff.1 hi).1
    have e := congrArg List.length h.keys
    simp at e this ⊢; omega
  have hx := List.getElem?_eq_getElem hlt
  have hv := h.vals _ (List.getElem_mem hlt)
  have hkey : es.toList[i].key = kv k := by
    have := congrArg (fun l => l[i]?) h.keys
    simp only [List.getElem?_map, hx, hi, Option.map_some, Option.some.injEq] at this
    exact this
  refine ⟨i, es.toList[i], hi, by rw [← Array.getElem?_toList]; exact hx, hkey, hv, ?_⟩
  have := hK.sf k es.toList q i _ h.keys h.nd hi hx
  rwa [hv] at this
theorem SetE.no (hK : KeyT P kt kv) {es : Array MapEntry} {q : List K} (h : SetE kv es q) {k : K} (hk : k ∉ q) : dX_ P kt (kv k) es.toList none := hK.nf k es.toList q h.keys hk
theorem SetE.push {es : Array MapEntry} {q : List K} (h : SetE kv es q) {k : K} (hk : k ∉ q) (c : Nat) : SetE kv (es.push ⟨kv k, .bool true, c⟩) (q ++ [k]) := by
  refine ⟨by simp [h.keys], fun x hx => ?_, ?_⟩
  · rw [Array.toList_push, List.mem_append] at hx
    rcases hx with hx | hx
    · exact h.vals x hx
    · simp at hx; rw [hx]
  · rw [List.nodup_append]; exact ⟨h.nd, by simp, fun a ha b hb e => by simp at hb; subst hb; subst e; exact hk ha⟩
end
section ops
variable {P : Program} {N : Nat} {v0 : Vw} {H0 : Hp} {R : Exit → Act → World → Prop} {Kk : List Kt} {fr : Fr} {H : Hp} {Γ : List Fct}
variable {ops : Array Oper} {lo : List Oper} {d : Nat} {ty : TypeId} {ps : String} {af : Array Edge}
variable {K D : Type} [DecidableEq K] {kv : K → Value} {cells : D → List Value}
theorem ci_ {t kt et : TypeId} {x y : Operand} {mb : Nat} {l : List (K × D)} {adr : K → Option Addr × Nat} {k : K} (hK : KeyT P kt kv) (hu : ∀ w, (underlying t).run P w = .ok (.map kt et) w) (hz : ∀ w, (zeroValue et).run P w = .ok (.slice none 0 0) w) (hx : Fr.ev fr x = some (.map (some mb))) (hy : Fr.ev fr y = some (kv k))
    (hm : ∀ v, v.sat H → aI_ Γ v → (mlF P kt kv cells mb l adr).p v) : Yld P N fr H Γ (.lookup t x y false) ty (.slice (adr k).1 (lat l k).length (adr k).2) :=
  fun a v h1 h2 h4 _ _ _ => by
    obtain ⟨_, es, c, g1, g2⟩ := hm v h2 h4
    have hb := MapKept.run_getObj_map (P := P) g1
    rcases (g2 k).2 with ⟨q5, q6⟩ | ⟨i, q5⟩
    · rw [q6]; simp [execOp, h1.ev hx, h1.ev hy, Instr.lookup, hu, hb, hK.ok _ _ _, q5 _, hz]
    · simp [execOp, h1.ev hx, h1.ev hy, Instr.lookup, hu, hb, hK.ok _ _ _, q5 _]
theorem ej_ {t kt et : TypeId} {x y : Operand} {mb c : Nat} {es : Array MapEntry} {q : List K} {k : K} (hK : KeyT P kt kv) (hu : ∀ w, (underlying t).run P w = .ok (.map kt et) w) (hz : ∀ w, (zeroValue et).run P w = .ok (.bool false) w) (hx : Fr.ev fr x = some (.map (some mb))) (hy : Fr.ev fr y = some (kv k))
    (hq : SetE kv es q) (hm : ∀ v, v.sat H → aI_ Γ v → v.w.heap[mb]? = some (.map es c)) : Yld P N fr H Γ (.lookup t x y false) ty (.bool (decide (k ∈ q))) := by
  by_cases hk : k ∈ q
  · obtain ⟨i, _, _, _, _, _, hf⟩ := hq.yes hK hk
    rw [decide_eq_true hk]
    exact gb_ hu hx hy hm (hK.ok k) hf
  · rw [decide_eq_false hk]
    exact ga_ hu hz hx hy hm (hK.ok k) (hq.no hK hk)
theorem pT_ {t kt et : TypeId} {x : Operand} {mb c : Nat} {es : Array MapEntry} (hu : ∀ w, (underlying t).run P w = .ok (.map kt et) w) (hx : Fr.ev fr x = some (.map (some mb))) (hm : ∀ v, v.sat H → aI_ Γ v → v.w.heap[mb]? = some (.map es c)) :
    Yld P N fr H Γ (.call ⟨.builtin .len, #[x], #[t]⟩) ty (.int .i64 (es.size : Int)) :=
  fun a v h1 h2 h4 _ _ _ => by
    have hb := MapKept.run_getObj_map (P := P) (hm v h2 h4)
    simp [execOp, resolve, invoke, builtin, Builtin.len_, h1.ev hx, hu, hb, goInt]
theorem jD_ {o : Op} {t kt et : TypeId} {x y z : Operand} {b c i : Nat} (n : Nat) {es : Array MapEntry} {e : MapEntry} {k : K} {u u' : Value} (hK : KeyT P kt kv) (ho : o = .insert t x y z ∨ o = .mapUpdate t x y z) (hu : ∀ w, (underlying t).run P w = .ok (.map kt et) w)
    (hx : Fr.ev fr x = some (.map (some b))) (hy : Fr.ev fr y = some (kv k)) (hz : Fr.ev fr z = some u) (hi : H[n]? = some (b, .map es c)) (hf : dX_ P kt (kv k) es.toList (some (i, u'))) (he : es[i]? = some e) (hek : e.key = kv k)
    (hkk : Ops P R N v0 H0 ops lo Kk fr (H.set n (b, .map (es.modify i fun y => { y with key := kv k, val := u }) c)) Γ) : Ops P R N v0 H0 ops (⟨none, o, ty, ps, af, none⟩ :: lo) Kk fr H Γ :=
  dF_ rfl fun a v h1 h2 h3 h4 => by
    have hb := (h2.own _ (List.mem_of_getElem? hi)).1
    have hg := MapKept.run_getObj_map (P := P) hb
    have hs := MapKept.run_setObj_map (P := P) (.map (es.modify i fun y => { y with key := kv k, val := u }) c) hb
    have he : (execOp a.eval ⟨none, o, ty, ps, af, none⟩).run P v.w = .ok .skip { v.w with heap := v.w.heap.setIfInBounds b (.map (es.modify i fun y => { y with key := kv k, val := u }) c) } := by
      rcases ho with rfl | rfl <;> simp [execOp, h1.ev hx, h1.ev hy, h1.ev hz, Instr.mapUpdate, hu, hg, hK.ok _ _ _, hf _, hs, Instr.keyThatStays, he, hek, hK.same]
    unfold Oper.wp
    rw [he]
    have hh := MapKept.heap_set (o' := .map (es.modify i fun y => { y with key := kv k, val := u }) c) hb
    obtain ⟨g1, g2⟩ := gf_ (w' := { v.w with heap := v.w.heap.setIfInBounds b (.map (es.modify i fun y => { y with key := kv k, val := u }) c) }) h2 hi rfl rfl rfl (Nat.le_refl _) (by simp) hh.1 (fun k hk => hh.2 k hk)
    exact hkk a _ h1 g1 (h3.trans g2) (bC_ (g2.le h2) h4)
theorem mP_ {es : Array MapEntry} {i : Nat} {e : MapEntry} {key val : Value} (he : es[i]? = some e) (hk : e.key = key) (hv : e.val = val) : (es.modify i fun y => { y with key := key, val := val }) = es := by
  apply Array.ext_getElem?
  intro j
  rw [Array.getElem?_modify]
  by_cases hij : i = j
  · subst hij; rw [if_pos rfl, he]; simp only [Option.map_some]; rw [← hk, ← hv]
  · rw [if_neg hij]
theorem fK_ {o : Op} {t kt et : TypeId} {x y z : Operand} {b c : Nat} (n : Nat) {es : Array MapEntry} {q : List K} {k : K} (hK : KeyT P kt kv) (ho : o = .insert t x y z ∨ o = .mapUpdate t x y z) (hu : ∀ w, (underlying t).run P w = .ok (.map kt et) w)
    (hx : Fr.ev fr x = some (.map (some b))) (hy : Fr.ev fr y = some (kv k)) (hz : Fr.ev fr z = some (.bool true)) (hi : H[n]? = some (b, .map es c)) (hq : SetE kv es q)
    (hkk : ∀ es' c', SetE kv es' (if k ∈ q then q else q ++ [k]) → Ops P R N v0 H0 ops lo Kk fr (H.set n (b, .map es' c')) Γ) : Ops P R N v0 H0 ops (⟨none, o, ty, ps, af, none⟩ :: lo) Kk fr H Γ := by
  by_cases hk : k ∈ q
  · obtain ⟨i, e, g1, g2, g3, g4, g5⟩ := hq.yes hK hk
    refine jD_ n hK ho hu hx hy hz hi g5 g2 g3 ?_
    rw [mP_ g2 g3 g4]
    exact hkk es c (by rw [if_pos hk]; exact hq)
  · exact bO_ n ho hu hx hy hz hi (hK.ok k) (hq.no hK hk) (hkk _ _ (by rw [if_neg hk]; exact hq.push hk c))
theorem dy_ {t kt et : TypeId} {x y : Operand} {mb : Nat} {e : TypeId} {sz : Nat} {l : List (K × D)} {k : K} {Hm F : Hp} (hK : KeyT P kt kv) (hm : dH_ kv cells e sz l mb Hm) (hu : ∀ w, (underlying t).run P w = .ok (.map kt et) w) (hz : ∀ w, (zeroValue et).run P w = .ok (.slice none 0 0) w)
    (hx : Fr.ev fr x = some (.map (some mb))) (hy : Fr.ev fr y = some (kv k)) (hH : H.Perm (Hm ++ F)) (hN : Nat.blt d N = true)
    (hk : ∀ es c i st sv Hk Hr, MOpn kv cells e sz l mb k es c i st Hr → bk_ e sz sv (lat l k).length ((lat l k).flatMap cells) Hk → Ops P R N v0 H0 ops lo Kk ((d, .tuple #[sv, .int .i64 st]) :: fr) ((mb, .map es c) :: (Hk ++ (Hr ++ F))) Γ) :
    Ops P R N v0 H0 ops (⟨some d, .mapEntry t x y, ty, ps, af, none⟩ :: lo) Kk fr H Γ := by
  obtain ⟨es, c, es', c', i, st, sv, Hk, Hr, p1, p2, p3, p4⟩ := hm.entry hK k
  refine dF_ rfl fun a v h1 h2 h3 h4 => ?_
  have hp : H.Perm ((mb, .map es c) :: (Hk ++ (Hr ++ F))) := hH.trans (by
    have := p1.append_right F
    simpa [List.append_assoc] using this)
  have h2' := h2.perm hp
  have hb := (h2'.own _ List.mem_cons_self).1
  have hg := MapKept.run_getObj_map (P := P) hb
  have he : (execOp a.eval ⟨some d, .mapEntry t x y, ty, ps, af, none⟩).run P v.w = .ok (.value (.tuple #[sv, .int .i64 st])) { v.w with heap := v.w.heap.setIfInBounds mb (.map es' c') } := by
    rcases p4 with ⟨q1, rfl, rfl, rfl, rfl⟩ | ⟨j, z, q1, q2, q3, rfl, rfl, rfl⟩
    · have hs := MapKept.run_setObj_map (P := P) (.map (es.push ⟨kv k, .slice none 0 0, c⟩) (c + 1)) hb
      simp [execOp, h1.ev hx, h1.ev hy, Instr.mapEntry, hu, hg, hK.ok _ _ _, q1 _, hz, hs, goInt]
    · have hs := MapKept.run_setObj_map (P := P) (.map es' c') hb
      simp [execOp, h1.ev hx, h1.ev hy, Instr.mapEntry, hu, hg, hK.ok _ _ _, q1 _, Instr.keyThatStays, q2, q3, hK.same, nM_ q2 q3, hs, goInt]
  unfold Oper.wp
  rw [he]
  have hh := MapKept.heap_set (o' := .map es' c') hb
  obtain ⟨g1, g2⟩ := gf_ (i := 0) (o' := .map es' c') (w' := { v.w with heap := v.w.heap.setIfInBounds mb (.map es' c') }) h2' rfl rfl rfl rfl (Nat.le_refl _) (by simp) hh.1 (fun k hk => hh.2 k hk)
  simp only [List.set_cons_zero] at g1 g2
  exact hk es' c' i st sv Hk Hr p3 p2 _ _ (h1.put hN) g1 (h3.trans (g2.permL hp.symm)) (bC_ (g2.le h2') h4)
theorem bZ_ {t : TypeId} {x y z : Operand} {mb c i : Nat} {e : TypeId} {sz : Nat} {l : List (K × D)} {k : K} {dd : D} {es : Array MapEntry} {st : Int} {sv : Value} {Hk Hr F : Hp} (ho : MOpn kv cells e sz l mb k es c i st Hr) (hr : bk_ e sz sv (lat (l ++ [(k, dd)]) k).length ((lat (l ++ [(k, dd)]) k).flatMap cells) Hk)
    (hx : Fr.ev fr x = some (.map (some mb))) (hy : Fr.ev fr y = some (.int .i64 st)) (hz : Fr.ev fr z = some sv) (hH : H.Perm ((mb, .map es c) :: (Hk ++ (Hr ++ F))))
    (hk : ∀ H', dH_ kv cells e sz (l ++ [(k, dd)]) mb H' → Ops P R N v0 H0 ops lo Kk fr (H' ++ F) Γ) : Ops P R N v0 H0 ops (⟨none, .entryStore t x y z, ty, ps, af, none⟩ :: lo) Kk fr H Γ := by
  obtain ⟨H', q1, q2⟩ := ho.close dd sv Hk hr
  refine dF_ rfl fun a v h1 h2 h3 h4 => ?_
  have h2' := h2.perm hH
  have hb := (h2'.own _ List.mem_cons_self).1
  have hg := MapKept.run_getObj_map (P := P) hb
  have hs := MapKept.run_setObj_map (P := P) (.map (es.modify i fun y => { y with val := sv }) c) hb
  have he : (execOp a.eval ⟨none, .entryStore t x y z, ty, ps, af, none⟩).run P v.w = .ok .skip { v.w with heap := v.w.heap.setIfInBounds mb (.map (es.modify i fun y => { y with val := sv }) c) } := by
    have hf := ho.find
    simp [execOp, h1.ev hx, h1.ev hy, h1.ev hz, Instr.entryStore, hg, hs, asInt, asIntOf, hf]
  unfold Oper.wp
  rw [he]
  have hh := MapKept.heap_set (o' := .map (es.modify i fun y => { y with val := sv }) c) hb
  obtain ⟨g1, g2⟩ := gf_ (i := 0) (o' := .map (es.modify i fun y => { y with val := sv }) c) (w' := { v.w with heap := v.w.heap.setIfInBounds mb (.map (es.modify i fun y => { y with val := sv }) c) }) h2' rfl rfl rfl rfl (Nat.le_refl _) (by simp) hh.1 (fun k hk => hh.2 k hk)
  simp only [List.set_cons_zero] at g1 g2
  have pp : ((mb, Obj.map (es.modify i fun y => { y with val := sv }) c) :: (Hk ++ (Hr ++ F))).Perm (H' ++ F) := by
    have := (q2.append_right F).symm
    simpa [List.append_assoc] using this
  exact hk H' q1 _ _ h1 (g1.perm pp) (h3.trans ((g2.permL hH.symm).subR fun b hb => ((pp.map Prod.fst).mem_iff).2 hb)) (bC_ (g2.le h2') h4)
def MOp (P : Program) (kt : TypeId) (kv : K → Value) (cells : D → List Value) (e : TypeId) (sz : Nat) (l : List (K × D)) (mb : Nat) (k : K) (es : Array MapEntry) (c : Nat) (sv : Value) (Hr : Hp) : Prop :=
  (dX_ P kt (kv k) es.toList none ∧ sv = .slice none 0 0 ∧ ∀ d sv' Hk', bk_ e sz sv' (lat (l ++ [(k, d)]) k).length ((lat (l ++ [(k, d)]) k).flatMap cells) Hk' → ∃ H', dH_ kv cells e sz (l ++ [(k, d)]) mb H' ∧ H'.Perm ((mb, .map (es.push ⟨kv k, sv', c⟩) (c + 1)) :: (Hk' ++ Hr))) ∨
  (∃ i x, dX_ P kt (kv k) es.toList (some (i, sv)) ∧ es[i]? = some x ∧ x.key = kv k ∧ x.val = sv ∧ ∀ d sv' Hk', bk_ e sz sv' (lat (l ++ [(k, d)]) k).length ((lat (l ++ [(k, d)]) k).flatMap cells) Hk' → ∃ H', dH_ kv cells e sz (l ++ [(k, d)]) mb H' ∧ H'.Perm ((mb, .map (es.modify i fun y => { y with key := kv k, val := sv' }) c) :: (Hk' ++ Hr)))
theorem oy_ {k0 : Act → World → Prop} {kt : TypeId} {mb : Nat} {e : TypeId} {sz : Nat} {l : List (K × D)} {Hm F : Hp} (hK : KeyT P kt kv) (k : K) (hm : dH_ kv cells e sz l mb Hm) (hH : H.Perm (Hm ++ F))
    (h : ∀ es c sv Hk Hr, bk_ e sz sv (lat l k).length ((lat l k).flatMap cells) Hk → MOp P kt kv cells e sz l mb k es c sv Hr → Ok N v0 H0 k0 fr ((mb, .map es c) :: (Hk ++ (Hr ++ F))) Γ) : Ok N v0 H0 k0 fr H Γ := by
  obtain ⟨es, c, sv, Hk, Hr, p1, p2, p3⟩ := hm.open hK k
  refine at_ (hH.trans (by
    have := p1.append_right F
    simpa [List.append_assoc] using this)) (h es c sv Hk Hr p2 p3)
theorem gX_ {t kt et : TypeId} {x y : Operand} {mb c : Nat} {e : TypeId} {sz : Nat} {l : List (K × D)} {k : K} {es : Array MapEntry} {sv : Value} {Hr : Hp} (hK : KeyT P kt kv) (ho : MOp P kt kv cells e sz l mb k es c sv Hr) (hu : ∀ w, (underlying t).run P w = .ok (.map kt et) w) (hz : ∀ w, (zeroValue et).run P w = .ok (.slice none 0 0) w)
    (hx : Fr.ev fr x = some (.map (some mb))) (hy : Fr.ev fr y = some (kv k)) (i : Nat) (hi : H[i]? = some (mb, .map es c)) : Yld P N fr H Γ (.lookup t x y false) ty sv := by
  have hm : ∀ v, v.sat H → aI_ Γ v → v.w.heap[mb]? = some (.map es c) := fun v h _ => (h.own _ (List.mem_of_getElem? hi)).1
  rcases ho with ⟨h1, rfl, _⟩ | ⟨i, z, h1, _⟩
  · exact ga_ hu hz hx hy hm (hK.ok k) h1
  · exact gb_ hu hx hy hm (hK.ok k) h1
theorem gj_ {o : Op} {t kt et : TypeId} {x y z : Operand} {mb c : Nat} {e : TypeId} {sz : Nat} {l : List (K × D)} {k : K} {dd : D} {es : Array MapEntry} {sv sv' : Value} {Hk Hr F : Hp} (hK : KeyT P kt kv) (ho : MOp P kt kv cells e sz l mb k es c sv Hr) (hr : bk_ e sz sv' (lat (l ++ [(k, dd)]) k).length ((lat (l ++ [(k, dd)]) k).flatMap cells) Hk)
    (hop : o = .insert t x y z ∨ o = .mapUpdate t x y z) (hu : ∀ w, (underlying t).run P w = .ok (.map kt et) w) (hx : Fr.ev fr x = some (.map (some mb))) (hy : Fr.ev fr y = some (kv k)) (hz : Fr.ev fr z = some sv') (hH : H.Perm ((mb, .map es c) :: (Hk ++ (Hr ++ F))))
    (hk : ∀ H', dH_ kv cells e sz (l ++ [(k, dd)]) mb H' → Ops P R N v0 H0 ops lo Kk fr (H' ++ F) Γ) : Ops P R N v0 H0 ops (⟨none, o, ty, ps, af, none⟩ :: lo) Kk fr H Γ := by
  refine at_ hH ?_
  rcases ho with ⟨h1, _, h2⟩ | ⟨i, q, h1, h3, h4, _, h2⟩
  · obtain ⟨H', q1, q2⟩ := h2 dd sv' Hk hr
    refine bO_ 0 hop hu hx hy hz rfl (hK.ok k) h1 ?_
    simp only [List.set_cons_zero]
    exact at_ (by have := (q2.append_right F).symm; simpa [List.append_assoc] using this) (hk H' q1)
  · obtain ⟨H', q1, q2⟩ := h2 dd sv' Hk hr
    refine jD_ 0 hK hop hu hx hy hz rfl h1 h3 h4 ?_
    simp only [List.set_cons_zero]
    exact at_ (by have := (q2.append_right F).symm; simpa [List.append_assoc] using this) (hk H' q1)
theorem cY_ {b : Nat × Obj} {O Q F : Hp} (h : H.Perm ((b :: (O ++ Q)) ++ F)) : H.Perm (b :: (O ++ (Q ++ F))) := by simpa [List.append_assoc] using h
theorem dw_ {b : Nat × Obj} {F : Hp} (h : H.Perm ([b] ++ F)) : H.Perm (b :: F) := h
theorem bj_ {b : Nat × Obj} {F F' : Hp} (h : H.Perm ([b] ++ F)) (h2 : F.Perm F') : H.Perm (b :: F') := List.Perm.trans h (h2.cons b)
theorem kE_ {fn : Func} {Rr : Ending → World → Prop} {c : Code} (h : Run P (bodyPost P fn Rr) N v0 H0 c [] fr H Γ) : Run P (bodyPost P fn Rr) N v0 H0 (.scope c) [] fr H Γ :=
  fun a v h1 h2 h3 h4 => wp_scope_straight (wp_mono (h a v h1 h2 h3 h4) fun e a w hq => by cases e <;> exact hq)
theorem kF_ {c : Nat} (h : Fin P R N v0 H0 Kk fr H Γ) : Run P R N v0 H0 (.label c) Kk fr H Γ :=
  fun a v h1 h2 h3 h4 => wp_label (h a v h1 h2 h3 h4)
end ops
end Go.Sx
namespace Go.Sx
open Go
section
variable {P : Program} {N : Nat} {v0 : Vw} {H0 : Hp} {R : Exit → Act → World → Prop} {K : List Kt} {fr : Fr} {H F : Hp} {Γ : List Fct} {ops : Array Oper} {l : List Oper} {d : Nat} {ty : TypeId} {ps : String} {af : Array Edge} {e : TypeId} {sz n : Nat} {sv : Value} {xs : List Value} {Hr : Hp}
theorem nK_ {t kt et : TypeId} {x : Operand} {k : IntKind} {m : Int} (hu : ∀ w, (underlying t).run P w = .ok (.map kt et) w) (hx : Fr.ev fr x = some (.int k m)) (hN : Nat.blt d N = true) (hk : ∀ b, Ops P R N v0 H0 ops l K ((d, .map (some b)) :: fr) ((b, .map #[] 0) :: H) Γ) :
    Ops P R N v0 H0 ops (⟨some d, .makeMap t (some x), ty, ps, af, none⟩ :: l) K fr H Γ :=
  gi_ (x := fun b => .map (some b)) hN (fun a v h1 _ _ => by simp [execOp, Instr.makeMap, newObj, hu, h1.ev hx, asInt, asIntOf]; rfl) hk
theorem mH_ {x y : Operand} {t tn : TypeId} {by' : Nat} {k kn : IntKind} (he : Elt P t e sz by') (htn : P.underlying tn = some (.int kn)) (hx : Fr.ev fr x = some (.slice none 0 0)) (hy : Fr.ev fr y = some (.int k (n : Int))) (h0 : 0 < n) (hb : n * by' ≤ 140737488355328) (h63 : n ≤ maxLen) (hN : Nat.blt d N = true)
    (hk : ∀ (y : Nat × Array Value) (b : Nat), (n ≤ y.1 ∧ y.1 ≤ maxLen ∧ y.2.size = y.1 * sz) → Ops P R N v0 H0 ops l K ((d, .slice (some ⟨b, 0, none⟩) n y.1) :: fr) ((b, .cells y.2 e (0, 0)) :: H) Γ) :
    Ops P R N v0 H0 ops (⟨some d, .call ⟨.builtin .append, #[x, y], #[t, tn]⟩, ty, ps, af, none⟩ :: l) K fr H Γ :=
  jG_ (β := Nat × Array Value) (x := fun y b => .slice (some ⟨b, 0, none⟩) n y.1) (o := fun y => .cells y.2 e (0, 0)) (fun y => n ≤ y.1 ∧ y.1 ≤ maxLen ∧ y.2.size = y.1 * sz) hN
    (fun a v h1 h2 h4 => by
      obtain ⟨i, z, hi, hz, es, eb, ez⟩ := he.info
      subst es eb
      have hr := Lib.run_append_nil_zeros (P := P) v.w t tn ty e i z k kn he.und htn hi hz n h0 he.pos (by simp only [maxLen] at h63; omega) (by omega)
      have h1' := grownCap_ge v.w n 0 e
      have h2' := grownCap_le_maxLen v.w n 0 e h63
      refine ⟨(grownCap v.w n 0 e, Builtin.zeroCells z.cells n ++ Builtin.zeroCells z.cells (grownCap v.w n 0 e - n)), v.w.drew.alloc (.cells (Builtin.zeroCells z.cells n ++ Builtin.zeroCells z.cells (grownCap v.w n 0 e - n)) e), ⟨h1', h2', ?_⟩, ?_, rfl, rfl, rfl, rfl, by simp⟩
      · simp only [Array.size_append, size_zeroCells, ez, ← Nat.add_mul]
        congr 1
        omega
      · simp only [execOp, resolve, invoke, builtin, Sem.run_bind, Sem.run_pure, Result.andThen_ok, List.map_toArray, List.map_cons, List.map_nil, h1.ev hx, h1.ev hy, hr])
    hk
theorem mb_ {x : Operand} {t : TypeId} {ad : Option Addr} {len cap : Nat} (hu : ∀ w, (underlying t).run P w = .ok (.slice e) w) (hx : Fr.ev fr x = some (.slice ad len cap)) :
    Yld P N fr H Γ (.call ⟨.builtin .cap, #[x], #[t]⟩) ty (.int .i64 (cap : Int)) :=
  fun a v h1 _ _ _ _ _ => by simp [execOp, resolve, invoke, builtin, Builtin.cap_, hu, h1.ev hx, goInt]
theorem oW_ {b cap : Nat} {cur : Array Value} (h1 : cap ≤ maxLen) (h2 : cur.size = cap * sz) : bk_ e sz (.slice (some ⟨b, 0, none⟩) 0 cap) 0 [] [(b, .cells cur e (0, 0))] :=
  ⟨by simp, .inr ⟨b, cap, cur, rfl, rfl, Nat.zero_le _, h1, h2, by simp⟩⟩
end
end Go.Sx
namespace Go.Sx
open Go
theorem qM_ {P : Program} {kt : TypeId} {kd : IntKind} (hu : P.underlying kt = some (.int kd)) : KeyT P kt (fun n : Int => .int kd n) where
  ok := fun k => cf_ hu
  nf := fun k es ks h hk => bu_ hu (by
    have : ∀ (ks : List Int) (es : List MapEntry) (i : Nat), es.map (·.key) = ks.map (fun n : Int => Value.int kd n) → k ∉ ks → Instr.findNow (.int kd) (.int kd k) es i = some none := by
      intro ks
      induction ks with
      | nil => intro es i h _; have : es = [] := by simpa using h
               subst this; rfl
      | cons q ks ih =>
        intro es i h hk
        cases es with
        | nil => simp at h
        | cons e es =>
          simp only [List.map_cons, List.cons.injEq] at h
          simp only [List.mem_cons, not_or] at hk
          have hs : Instr.sameNow (.int kd) (.int kd k) e.key = some false := by
            rw [h.1]; simp [Instr.sameNow, hk.1]
          simp only [Instr.findNow, hs]
          exact ih es (i + 1) h.2 hk.2
    exact this ks es 0 h hk)
  sf := fun k es ks i e h hn hi he => bu_ hu (by
    have : ∀ (ks : List Int) (es : List MapEntry) (j i : Nat), es.map (·.key) = ks.map (fun n : Int => Value.int kd n) → ks.Nodup → ks[i]? = some k → es[i]? = some e → Instr.findNow (.int kd) (.int kd k) es j = some (some (j + i, e.val)) := by
      intro ks
      induction ks with
      | nil => intro es j i _ _ h; simp at h
      | cons q ks ih =>
        intro es j i h hn hi he
        cases es with
        | nil => simp at h
        | cons x es =>
          simp only [List.map_cons, List.cons.injEq] at h
          rw [List.nodup_cons] at hn
          cases i with
          | zero =>
            simp only [List.getElem?_cons_zero, Option.some.injEq] at hi he
            subst hi; subst he
            have hs : Instr.sameNow (.int kd) (.int kd q) x.key = some true := by
              rw [h.1]; simp [Instr.sameNow]
            simp only [Instr.findNow, hs, Nat.add_zero]
          | succ i =>
            simp only [List.getElem?_cons_succ] at hi he
            have hne : k ≠ q := fun e => hn.1 (e ▸ List.mem_of_getElem? hi)
            have hs : Instr.sameNow (.int kd) (.int kd k) x.key = some false := by
              rw [h.1]; simp [Instr.sameNow, hne]
            simp only [Instr.findNow, hs]
            rw [ih es (j + 1) i h.2 hn.2 hi he, show j + 1 + i = j + (i + 1) by omega]
    have := this ks es 0 i h hn hi he
    rwa [Nat.zero_add] at this)
  same := fun k => es_ 10000 k
end Go.Sx
namespace Go.Sx
open Go
section
variable {P : Program} {N : Nat} {v0 : Vw} {H0 : Hp} {R : Exit → Act → World → Prop} {Kk : List Kt} {fr : Fr} {H : Hp} {Γ : List Fct}
variable {ops : Array Oper} {lo : List Oper} {d : Nat} {ty : TypeId} {ps : String} {af : Array Edge}
variable {K : Type} [DecidableEq K] {kv : K → Value}
structure ItS (kv : K → Value) (es : Array MapEntry) (seen : Array Nat) (done : List K) : Prop where
  nd : done.Nodup
  mem : ∀ e ∈ es.toList, seen.contains e.born = true ↔ ∃ k ∈ done, e.key = kv k
  sub : ∀ k ∈ done, ∃ e ∈ es.toList, e.key = kv k
theorem ItS.nil {es : Array MapEntry} : ItS kv es #[] [] := ⟨List.nodup_nil, fun e _ => by simp, fun k hk => by simp at hk⟩
theorem SetE.entry {es : Array MapEntry} {q : List K} (hE : SetE kv es q) (hi : ∀ x y, kv x = kv y → x = y) {x e : MapEntry} (hx : x ∈ es.toList) (he : e ∈ es.toList) (h : x.key = e.key) : x = e := by
  obtain ⟨i, hi1, hi2⟩ := List.getElem_of_mem hx
  obtain ⟨j, hj1, hj2⟩ := List.getElem_of_mem he
  have hl := congrArg List.length hE.keys
  simp only [List.length_map] at hl
  have key : ∀ (k : Nat) (hk : k < es.toList.length), es.toList[k].key = kv (q[k]'(by omega)) := fun k hk => by
    have := congrArg (fun l => l[k]?) hE.keys
    simp only [List.getElem?_map] at this
    rw [List.getElem?_eq_getElem hk, List.getElem?_eq_getElem (by omega)] at this
    simpa using this
  have e1 := key i hi1
  have e2 := key j hj1
  rw [hi2] at e1
  rw [hj2] at e2
  have e3 := hi _ _ (e1.symm.trans (h.trans e2))
  have hij : i = j := by
    rcases Nat.lt_trichotomy i j with h1 | h1 | h1
    · exact absurd e3 (List.pairwise_iff_getElem.1 hE.nd i j (by omega) (by omega) h1)
    · exact h1
    · exact absurd e3.symm (List.pairwise_iff_getElem.1 hE.nd j i (by omega) (by omega) h1)
  subst hij
  rw [← hi2, ← hj2]
theorem SetE.ofKey {es : Array MapEntry} {q : List K} (hE : SetE kv es q) {e : MapEntry} (he : e ∈ es.toList) : ∃ k ∈ q, e.key = kv k := by
  have : e.key ∈ es.toList.map (·.key) := List.mem_map_of_mem he
  rw [hE.keys] at this
  obtain ⟨k, hk, h⟩ := List.mem_map.1 this
  exact ⟨k, hk, h.symm⟩
theorem ItS.step {es : Array MapEntry} {q : List K} {c : Nat} {seen : Array Nat} {done : List K} {e : MapEntry} (hi : ∀ x y, kv x = kv y → x = y) (hE : SetE kv es q) (hB : Born es c) (h : ItS kv es seen done) (he : e ∈ (leftOf es seen).toList) :
    ∃ k, k ∈ q ∧ k ∉ done ∧ e.key = kv k ∧ e ∈ es.toList ∧ ItS kv es (seen.push e.born) (done ++ [k]) := by
  unfold leftOf at he
  rw [Array.toList_filter, List.mem_filter] at he
  obtain ⟨h1, h2⟩ := he
  obtain ⟨k, hk, hkv⟩ := hE.ofKey h1
  have hnd : k ∉ done := fun hm => by
    have := (h.mem e h1).2 ⟨k, hm, hkv⟩
    rw [this] at h2
    simp at h2
  refine ⟨k, hk, hnd, hkv, h1, ⟨?_, fun x hx => ?_, fun y hy => ?_⟩⟩
  · rw [List.nodup_append]; exact ⟨h.nd, by simp, fun a ha b hb e => by simp at hb; subst hb; subst e; exact hnd ha⟩
  · rw [Array.contains_push, Bool.or_eq_true, h.mem x hx, beq_iff_eq]
    constructor
    · rintro (⟨y, hy, hyv⟩ | h3)
      · exact ⟨y, by simp [hy], hyv⟩
      · have : x = e := by
          have hn := hB.nd
          obtain ⟨i, hi1, hi2⟩ := List.getElem_of_mem hx
          obtain ⟨j, hj1, hj2⟩ := List.getElem_of_mem h1
          have hij : i = j := by
            rcases Nat.lt_trichotomy i j with g | g | g
            · exact ((List.pairwise_iff_getElem.1 hn i j (by simpa using hi1) (by simpa using hj1) g) (by simp only [List.getElem_map, hi2, hj2, h3])).elim
            · exact g
            · exact ((List.pairwise_iff_getElem.1 hn j i (by simpa using hj1) (by simpa using hi1) g) (by simp only [List.getElem_map, hi2, hj2, h3])).elim
          subst hij
          rw [← hi2, ← hj2]
        exact ⟨k, by simp, this ▸ hkv⟩
    · rintro ⟨y, hy, hyv⟩
      rcases List.mem_append.1 hy with hy | hy
      · exact .inl ⟨y, hy, hyv⟩
      · rw [List.mem_singleton] at hy
        subst hy
        exact .inr (congrArg MapEntry.born (hE.entry hi hx h1 (hyv.trans hkv.symm)))
  · rcases List.mem_append.1 hy with hy | hy
    · exact h.sub y hy
    · rw [List.mem_singleton] at hy
      subst hy
      exact ⟨e, h1, hkv⟩
theorem ItS.end {es : Array MapEntry} {q : List K} {seen : Array Nat} {done : List K} (hi : ∀ x y, kv x = kv y → x = y) (hE : SetE kv es q) (h : ItS kv es seen done) (h0 : (leftOf es seen).size = 0) : done.Perm q := by
  refine (List.perm_ext_iff_of_nodup h.nd hE.nd).2 fun k => ⟨fun hk => ?_, fun hk => ?_⟩
  · obtain ⟨e, he, hkv⟩ := h.sub k hk
    obtain ⟨k', hk', hkv'⟩ := hE.ofKey he
    exact hi _ _ (hkv.symm.trans hkv') ▸ hk'
  · have : kv k ∈ es.toList.map (·.key) := by rw [hE.keys]; exact List.mem_map_of_mem hk
    obtain ⟨e, he, hkv⟩ := List.mem_map.1 this
    have hs : seen.contains e.born = true := by
      cases hc : seen.contains e.born
      · exfalso
        have : e ∈ (leftOf es seen).toList := by unfold leftOf; rw [Array.toList_filter, List.mem_filter]; exact ⟨he, by simp only [hc]; rfl⟩
        have h1 := List.length_pos_of_mem this
        simp only [Array.length_toList] at h1
        omega
      · rfl
    obtain ⟨k', hk', hkv'⟩ := (h.mem e he).1 hs
    exact hi _ _ (hkv.symm.trans hkv') ▸ hk'
end
section
variable {P : Program} {N : Nat} {v0 : Vw} {H0 : Hp} {R : Exit → Act → World → Prop} {K : List Kt} {fr : Fr} {H F : Hp} {Γ : List Fct}
end
section
variable {Fc : Fence} {n : Nat} {P : Program} {N : Nat} {D : List Deferred} {v0 : Vw} {H0 : Hp} {R : Exit → Act → World → Prop} {K : List Kt} {fr : Fr} {H : Hp} {Γ : List Fct}
variable {ops : Array Oper} {l : List Oper} {d : Nat} {ty : TypeId} {ps : String} {af : Array Edge}
end
end Go.Sx
