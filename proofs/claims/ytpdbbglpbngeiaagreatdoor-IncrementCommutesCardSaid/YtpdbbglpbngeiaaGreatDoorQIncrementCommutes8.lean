/-
  Part of the proof of the law IncrementCommutes over this seat: the small logic, the data, the contracts of functions (no condition).
-/
import Derived.Test.YtpdbbglpbngeiaaGreatDoorQIncrementCommutes7
import Derived.Test.YtpdbbglpbngeiaaGreatDoorQIncrementCommutes4
import Derived.Test.YtpdbbglpbngeiaaGreatDoorQIncrementCommutes5
set_option linter.unusedVariables false
set_option linter.unusedSimpArgs false
set_option linter.unusedSectionVars false
namespace Go.Proofs.YtpdbbglpbngeiaaGreatDoor
open Go Go.Sx Go.Proofs
attribute [local irreducible] Code.wp wpList wpAnyH
open Go.Vs
structure Wk where
  ps : List Pc
  pad : Option Addr
  pcap : Nat
  cl : Cl
def Wk.cells (w : Wk) : List Value := .slice w.pad w.ps.length w.pcap :: w.cl.cells
theorem Wk.cells_len (w : Wk) : w.cells.length = 3 := rfl
def Wk.val (w : Wk) : Value := .agg w.cells.toArray
def Wk.no : Wk := Wk.mk [] none 0 Cl.no
structure Wk.ok (w : Wk) : Prop where
  al : w.ps.length ≤ w.pcap
  am : w.pcap ≤ maxLen
  az : w.pad = none → w.pcap = 0
  cl : w.cl.ok
theorem Wk.no_ok : Wk.no.ok := ⟨Nat.le_refl _, by simp [Wk.no], fun _ => rfl, Cl.no_ok⟩
def Wk.row (w : Wk) : List Fct := [aw_ w.pad (List.flatMap Pc.cells w.ps), aw_ w.cl.aad (List.flatMap aM_ w.cl.atoms), aw_ w.cl.fad (List.flatMap Fc.cells w.cl.facts)]
def dh_ (p : List Pc) (bu : Int) (w : Wk) (e : Int) : Prop := ∃ c, dG_ p bu c e ∧ (e = 0 → w.ps = p ∧ w.cl = c ∧ w.ok) ∧ (e ≠ 0 → w = Wk.no)
theorem dh_.ok {p : List Pc} {bu : Int} {w : Wk} {e : Int} (h : dh_ p bu w e) : w.ok := by
  obtain ⟨c, _, h1, h2⟩ := h
  by_cases he : e = 0
  · exact (h1 he).2.2
  · rw [h2 he]; exact Wk.no_ok
theorem dh_.good {p : List Pc} {bu : Int} {w : Wk} (h : dh_ p bu w 0) : w.ps = p ∧ w.ok ∧ dG_ p bu w.cl 0 := by
  obtain ⟨c, h0, h1, _⟩ := h
  obtain ⟨q1, q2, q3⟩ := h1 rfl
  exact ⟨q1, q3, q2 ▸ h0⟩
theorem dh_.len {p : List Pc} {bu : Int} {w : Wk} {e : Int} (h : dh_ p bu w e) : w.ps.length ≤ p.length ∧ w.cl.atoms.length ≤ 3 * p.length + 2 ∧ w.cl.facts.length ≤ 65536 := by
  obtain ⟨c, h0, h1, h2⟩ := h
  by_cases he : e = 0
  · obtain ⟨q1, q2, _⟩ := h1 he
    have := h0.len
    rw [q1, q2]; exact ⟨Nat.le_refl _, this⟩
  · rw [h2 he]; simp [Wk.no, Cl.no]
theorem dh_.srt {p : List Pc} {bu : Int} {w : Wk} {e : Int} (h : dh_ p bu w e) : Srt w.cl.facts := by
  obtain ⟨c, h0, h1, h2⟩ := h
  by_cases he : e = 0
  · rw [(h1 he).2.1]; exact h0.srt
  · rw [h2 he]; exact List.Pairwise.nil
section
variable {P : Program} {N : Nat} {fr : Fr} {H : Hp}
theorem dO_ {fn : Func} {t s r b n : Nat} {ty T : TypeId} {us : List Value} {u u2 : Value} (i : Nat) (hr : fn.results = #[.cell t ty, .tmp s, .tmp r]) (ha : ∀ w, (isAgg ty).run P w = .ok true w) (hs : ∀ w, (sizeOf ty).run P w = .ok n w) (hn : us.length = n) (hx : Fr.get fr t = some (zp_ b 0)) (hu : Fr.get fr s = some u) (hu2 : Fr.get fr r = some u2)
    (hi : H[i]? = some (b, .cells us.toArray T (0, 0))) (a : Act) (v : Vw) (h1 : Fr.sat N fr a) (h2 : v.sat H) : (results fn a.tmps).run P v.w = .ok (.tuple #[.agg us.toArray, u, u2]) v.w := by
  have e := h1.val t _ hx
  have e2 := h1.val s _ hu
  have e3 := h1.val r _ hu2
  have hl := di_ (t := ty) (w := v.w) (b := b) (off := 0) ha hs hn (fun j y hj => by rw [Nat.zero_add, fu_ h2 hi]; simpa using hj)
  simp [results, hr, e, e2, e3, asAddr, hl]
end
theorem eM_ : kO_ Tryz.prog 50 [(0, 1), (1, 2)] [.slice none 0 0, .slice none 0 0, .slice none 0 0] := ⟨_, by_, aS_, fun w => by simp [ca_, ac_]⟩
theorem jF_ (bu : Int) : Fn0 Tryz.prog 80 #[.int .i64 bu] (.bool (decide (0 ≤ bu ∧ bu ≤ 1073741824))) := by
  refine T_ Tryz.func80 rfl rfl Tryz.ntmps80 rfl fun v0 => ?_
  refine h_ (c_ (a_ (g_ rfl) rfl (e_ (b_ rfl (h_ (c_ (a_ (f_ rfl) rfl (x_ (cA_ rfl rfl) rfl fun r1 hr1 => ?_))))))))
  refine a_ (f_ rfl) rfl ?_
  cases r1
  · skip
    replace hr1 := of_decide_eq_false hr1
    refine r_ rfl rfl rfl rfl (r_ rfl rfl rfl rfl (a_ (C_ rfl rfl) rfl (a_ (g_ rfl) rfl (e_ (b_ rfl (E_ ?_))))))
    exact ar_ Tryz.results80 () (y_ rfl (by simp; omega)) I_ (fun _ _ _ => trivial)
  · skip
    replace hr1 := of_decide_eq_true hr1
    refine p_ rfl rfl (a_ (f_ rfl) rfl (p_ rfl rfl (x_ (cc_ rfl rfl) rfl fun r2 hr2 => ?_)))
    refine a_ (F_ rfl rfl) rfl (a_ (g_ rfl) rfl (e_ (b_ rfl (E_ ?_))))
    exact ar_ Tryz.results80 () (y_ rfl (by rw [← hr2]; simp; omega)) I_ (fun _ _ _ => trivial)
theorem pk_ (p : List Pc) (pad : Option Addr) (pcap : Nat) (hc : p.length ≤ pcap) (hl : p.length ≤ 100000000) : Tri Tryz.prog 78 #[.slice pad (List.length p) pcap] [] [aw_ pad (List.flatMap Pc.cells p)] (fun y : {y : Option Addr × Nat // (p).length ≤ y.2 ∧ y.2 ≤ maxLen ∧ (y.1 = none → y.2 = 0)} => .slice y.1.1 (p).length y.1.2) (fun _ => []) (fun y => [aw_ y.1.1 ((p).flatMap Pc.cells)]) := by
  refine T_ Tryz.func78 rfl rfl Tryz.ntmps78 rfl fun v0 => ?_
  refine h_ (c_ (a_ (g_ rfl) rfl (e_ (b_ rfl (h_ (h_ (c_ (a_ (f_ rfl) rfl (x_ (kU_ Tryz.underlying22 rfl rfl) rfl fun r1 hr1 => ?_)))))))))
  refine e_ (b_ rfl ?_)
  cases r1
  · skip
    replace hr1 := of_decide_eq_false hr1
    refine v_ rfl (z_ (b_ rfl (h_ (c_ (cJ_ G_ M_ rfl fun b1 => ?_)))))
    refine ak_ i_ (a_ (f_ rfl) rfl (aB_ (news := List.flatMap Pc.cells p) eD_ (dw_ b1 47 10) rfl rfl (fun q => absurd q (by assumption)) hc aD_ (by rw [bg_ Pc.cells 10 Pc.cells_len]) (fun v _ h => by exact h.1) (fun u hu => aG_ Pc.cells_one hu) (by simp only [maxLen]; ((try simp only [List.length_nil]); omega)) (by ((try simp only [List.length_nil]); omega)) rfl fun sv1 Hr1 hr1 => ?_))
    refine ak_ List.perm_append_comm ?_
    have hq1 : aO_ 47 10 sv1 (List.length (([] : List Pc) ++ p)) (List.flatMap Pc.cells (([] : List Pc) ++ p)) Hr1 := by rw [List.length_append, List.flatMap_append]; exact hr1
    refine a_ (g_ rfl) rfl (e_ (b_ rfl (E_ (bi_ hq1 aD_ fun ad2 cp2 had2 hcad2 hmad2 hzad2 => ?_))))
    exact ar_ Tryz.results78 ⟨(ad2, cp2), hcad2, hmad2, hzad2⟩ (bV_ rfl had2) I_ (fun v _ h => ⟨h.1, trivial⟩)
  · skip
    replace hr1 := of_decide_eq_true hr1
    refine t_ rfl (h_ (c_ (a_ (g_ rfl) rfl (e_ (b_ rfl (E_ (oJ_ (p := List.flatMap Pc.cells p = []) (fun v _ h => by have q := h.1; rw [show pad = none by assumption] at q; exact lj_ q) fun hz => ?_)))))))
    have hz2 : p = [] := List.eq_nil_of_length_eq_zero (by have := congrArg List.length hz; rw [bg_ Pc.cells 10 Pc.cells_len] at this; simp at this; omega)
    subst hz2
    exact ar_ Tryz.results78 ⟨(none, 0), by simp⟩ rfl I_ (fun _ _ _ => ⟨.inl rfl, trivial⟩)
theorem hm_ (p : List Pc) (pad : Option Addr) (pcap : Nat) (bu : Int) (hsm : ∀ x ∈ p, x.sm) (hc : p.length ≤ pcap) (hp : p.length ≤ 100000000) : Tri Tryz.prog 34 #[.slice pad (List.length p) pcap, .int .i64 bu] [] [aw_ pad (List.flatMap Pc.cells p), gi_] (fun y : {y : Wk × Int // dh_ p bu y.1 y.2} => .tuple #[y.1.1.val, .int .i64 y.1.2]) (fun _ => []) (fun y => y.1.1.row) := by
  refine T_ Tryz.func34 rfl rfl Tryz.ntmps34 rfl fun v0 => ?_
  refine h_ (c_ (ao_ by_ rfl fun b1 => ?_))
  refine a_ (g_ rfl) rfl (e_ (b_ rfl (h_ (c_ (a_ (f_ rfl) rfl (a_ (f_ rfl) rfl (W_ (qy_ p pad pcap bu hsm (by omega)) rfl I_ (fun v _ h => by exact ⟨h.1, h.2.1, trivial⟩) rfl fun ⟨⟨c1, e1⟩, hA1⟩ => ?_)))))))
  dsimp only
  dsimp only at hA1
  refine a_ (f_ rfl) rfl (a_ (Y_ rfl rfl) rfl (a_ (Y_ rfl rfl) rfl (ao_ en_ rfl fun b2 => ?_)))
  refine S_ 0 ac_ rfl rfl rfl rfl rfl rfl (a_ (g_ rfl) rfl (e_ (b_ rfl (h_ (h_ (c_ (a_ (f_ rfl) rfl (x_ (bL_ rfl rfl) rfl fun r1 hr1 => ?_))))))))
  refine e_ (b_ rfl ?_)
  cases r1
  · skip
    replace hr1 := aX_ hr1
    refine v_ rfl (z_ (b_ rfl (h_ ?_)))
    refine aR_ ((b2, .cells (Cl.cells c1).toArray 28 (0, 0)) :: []) (by kernel_rfl) ?_
    refine ae_ 4 [0, 2] (by kernel_rfl) (fun _ a b => ⟨Vw.sat.sub (a.perm i_), b⟩) (n_ rfl (f_ rfl) rfl (n_ rfl (X_ 0 aV_ ac_ rfl rfl rfl) rfl (ad_ (U_ 1 rfl (by kernel_rfl) (W_ (pk_ p pad pcap (by omega) (by omega)) rfl I_ (fun v _ h => by exact ⟨h.2.2.1, trivial⟩) rfl fun ⟨⟨cad, ccap⟩, hcl1, hcl2, hcl3⟩ => ?_)))))
    dsimp only
    dsimp only at hcl1 hcl2 hcl3
    refine e_ (w_ rfl (K_ (fun _ a b => ⟨Vw.sat.sub (a.perm i_), b.2⟩) (ae_ 2 [3] (by kernel_rfl) (fun _ a b => ⟨Vw.sat.sub (a.perm i_), b.2⟩) (n_ rfl (ax_ eM_ rfl rfl) rfl (ad_ (U_ 4 rfl (by kernel_rfl) (S_ 1 ag_ rfl rfl rfl rfl rfl rfl (e_ (w_ rfl ?_)))))))))
    refine K_ (fun _ a b => ⟨Vw.sat.sub (a.perm i_), b.2⟩) (ae_ 0 [5] (by kernel_rfl) (fun _ a b => ⟨Vw.sat.sub (a.perm i_), b.2⟩) (n_ rfl (g_ rfl) rfl (ad_ (aa_ (by kernel_rfl) (b_ rfl (E_ ?_))))))
    exact du_ ⟨((Wk.mk p cad ccap c1), 0), ⟨c1, (by assumption : e1 = 0) ▸ hA1, fun _ => ⟨rfl, rfl, ⟨hcl1, hcl2, hcl3, hA1.ok⟩⟩, fun q => absurd rfl q⟩⟩ (fun aa v h1 h2 => do_ (us := Wk.cells (Wk.mk p cad ccap c1)) 1 Tryz.results34 bf_ ag_ rfl rfl rfl rfl aa v h1 h2) I_ (fun v _ h => by exact ⟨h.1, h.2.1, h.2.2.1, trivial⟩)
  · skip
    replace hr1 := aW_ hr1
    refine t_ rfl (h_ (c_ (a_ (ax_ eM_ rfl rfl) rfl (a_ (f_ rfl) rfl (S_ 1 ag_ rfl rfl rfl rfl rfl rfl (a_ (g_ rfl) rfl (e_ (b_ rfl (E_ ?_)))))))))
    exact du_ ⟨((Wk.mk [] none 0 (Cl.mk [] none 0 [] none 0)), e1), ⟨c1, hA1, fun q => absurd q (by assumption), fun _ => rfl⟩⟩ (fun aa v h1 h2 => do_ (us := Wk.cells (Wk.mk [] none 0 (Cl.mk [] none 0 [] none 0))) 1 Tryz.results34 bf_ ag_ rfl rfl rfl rfl aa v h1 h2) I_ (fun v _ h => by exact ⟨.inl rfl, .inl rfl, .inl rfl, trivial⟩)
theorem iS_ {K : Type} [DecidableEq K] {l q : List K} {i : Nat} {x : K} (h : ∀ f, f ∈ q ↔ f ∈ l.take i) (hx : l[i]? = some x) : ∀ f, f ∈ (if x ∈ q then q else q ++ [x]) ↔ f ∈ l.take (i + 1) := fun f => by
  rw [List.take_add_one, hx, Option.toList_some, List.mem_append, List.mem_singleton, ← h]
  split
  · rename_i hm
    exact ⟨.inl, fun q => q.elim id fun e => e ▸ hm⟩
  · rw [List.mem_append, List.mem_singleton]
def bP_ (l k : List Fc) : List Fc := l.filter fun f => !decide (f ∈ k)
theorem hD_ {l k : List Fc} {i : Nat} {x : Fc} (h : l[i]? = some x) : bP_ (l.take (i + 1)) k = bP_ (l.take i) k ++ (if x ∈ k then [] else [x]) := by
  unfold bP_
  rw [gL_ h]
  by_cases hx : x ∈ k <;> simp [hx]
theorem ed_ {l k q : List Fc} (h : ∀ f, f ∈ q ↔ f ∈ k) : bP_ l q = bP_ l k := by
  unfold bP_; congr 1; funext f; rw [Bool.eq_iff_iff]; simp [h]
theorem gu_ (l k : List Fc) : (bP_ l k).length ≤ l.length := List.length_filter_le _ _
theorem jo_ (c : Cl) (hf : c.facts.length ≤ 1000000000) : Tri Tryz.prog 82 #[Cl.val c] [] [aw_ (Cl.fad c) (List.flatMap Fc.cells (Cl.facts c))] (fun y : {y : Nat × Array MapEntry × Nat × List Fc // SetE Fc.val y.2.1 y.2.2.2 ∧ ∀ f, f ∈ y.2.2.2 ↔ f ∈ c.facts} => .map (some y.1.1)) (fun y => [(y.1.1, .map y.1.2.1 y.1.2.2.1)]) (fun _ => []) := by
  refine T_ Tryz.func82 rfl rfl Tryz.ntmps82 rfl fun v0 => ?_
  refine h_ (c_ (bs_ rfl rfl fun b1 => ?_))
  refine a_ (g_ rfl) rfl (e_ (b_ rfl (h_ (c_ (a_ (m_ aJ_ rfl rfl rfl bB_) rfl (a_ (u_ 0 bI_ rfl rfl rfl) rfl (a_ (an_ H_ rfl) rfl (mj_ Tryz.runUnderlying122 rfl rfl fun b2 => ?_))))))))
  refine a_ (g_ rfl) rfl (e_ (b_ rfl (h_ (h_ (c_ (a_ (m_ aJ_ rfl rfl rfl bB_) rfl (a_ (u_ 1 bI_ rfl rfl rfl) rfl (a_ (an_ H_ rfl) rfl (a_ (f_ rfl) rfl ?_)))))))))
  refine e_ (b_ rfl (R_ ?_))
  refine aI_ (ι := {y : Nat × Array MapEntry × Nat × List Fc // y.1 ≤ List.length (Cl.facts c) ∧ SetE Fc.val y.2.1 y.2.2.2 ∧ (∀ f, f ∈ y.2.2.2 ↔ f ∈ List.take y.1 (Cl.facts c))}) (fun y => [(1, zp_ b1 0), (2, .map (some b2)), (10, .slice (Cl.fad c) (List.length (Cl.facts c)) (Cl.fcap c)), (11, .int .i64 (List.length (Cl.facts c) : Int)), (12, .int .i64 (y.1.1 : Int))]) (fun y => ((b2, .map y.1.2.1 y.1.2.2.1) :: ((b1, .cells (Cl.cells c).toArray 28 (0, 0)) :: []))) (fun y => [aw_ (Cl.fad c) (List.flatMap Fc.cells (Cl.facts c))]) (fun y => List.length (Cl.facts c) - y.1.1) ⟨((0 : Nat), #[], 0, ([] : List Fc)), by simp, SetE.nil, by simp⟩ ⟨rfl, rfl, rfl, rfl, rfl, trivial⟩ (k_ i_ i_) (fun _ _ h => h) ?_
  rintro ⟨⟨i, es, ce, q⟩, hi, hE, hq⟩
  dsimp only at hi hE hq ⊢
  refine h_ (c_ (x_ (ay_ rfl rfl) rfl fun r1 hr1 => ?_))
  refine e_ (b_ rfl (h_ ?_))
  cases r1
  · skip
    replace hr1 := of_decide_eq_false hr1
    refine v_ rfl (at_ rfl (b_ rfl (h_ (c_ (a_ (f_ rfl) rfl (a_ (g_ rfl) rfl (e_ (b_ rfl (E_ ?_)))))))))
    rw [List.take_of_length_le (by omega)] at hq
    exact ar_ Tryz.results82 ⟨(b2, es, ce, q), hE, hq⟩ rfl i_ (fun _ _ _ => trivial)
  · skip
    replace hr1 := of_decide_eq_true hr1
    have hlx1 : i < List.length (Cl.facts c) := by omega
    obtain ⟨x1, hx1⟩ : ∃ e0, (Cl.facts c)[i]? = some e0 := ⟨_, List.getElem?_eq_getElem hlx1⟩
    have hmx1 : x1 ∈ (Cl.facts c) := List.mem_of_getElem? hx1
    refine t_ rfl (z_ (b_ rfl (h_ (R_ (h_ (c_ (a_ (ab_ H_ D_ rfl rfl (fun v _ h => az_ (n := 6) Fc.cells_len (by decide) (by exact h.1) hx1) (by omega) (by first | omega | (simp; done))) rfl (a_ (aT_ (ad := (Cl.fad c)) (us := Fc.cells x1) aj_ D_ rfl (fun v _ h => by exact h.1) (Fc.cells_len _) (af_ Fc.cells_len hx1)) rfl (ao_ al_ rfl fun b3 => ?_)))))))))
    refine S_ 0 D_ rfl rfl rfl rfl rfl rfl (e_ (b_ rfl (c_ (a_ (f_ rfl) rfl (a_ (X_ 0 aj_ D_ rfl rfl rfl) rfl (fv_ (k := x1) 1 gq_ (.inr rfl) Tryz.runUnderlying122 rfl rfl rfl rfl hE fun ej1 cj1 hj1 => ?_))))))
    refine e_ (b_ rfl (c_ (a_ (P_ rfl rfl rfl (ah_ (by omega) (by omega))) rfl (a_ (f_ rfl) rfl (e_ (w_ rfl ?_))))))
    exact Z_ ⟨(i + 1, ej1, cj1, (if x1 ∈ q then q else q ++ [x1])), hlx1, hj1, iS_ hq hx1⟩ (by dsimp only; omega) ⟨rfl, rfl, rfl, rfl, rfl, trivial⟩ (k_ (d_ i_) (d_ i_)) (fun _ _ h => h)
theorem fhas_c (mb : Nat) (es : Array MapEntry) (ce : Nat) (q : List Fc) (hE : SetE Fc.val es q) (f : Fc) : Tri Tryz.prog 84 #[.map (some mb), Fc.val f] [(mb, .map es ce)] [] (fun _ : Unit => .bool (decide (f ∈ q))) (fun _ => [(mb, .map es ce)]) (fun _ => []) := by
  refine T_ Tryz.func84 rfl rfl Tryz.ntmps84 rfl fun v0 => ?_
  refine h_ (c_ (bs_ rfl rfl fun b1 => ?_))
  refine a_ (g_ rfl) rfl (e_ (b_ rfl (h_ (c_ (a_ (f_ rfl) rfl (a_ (X_ 0 aj_ D_ rfl rfl rfl) rfl (x_ (ej_ (k := f) gq_ Tryz.runUnderlying122 dJ_ rfl rfl hE (fun v h _ => (h.own _ (List.mem_of_getElem? (i := 1) rfl)).1)) rfl fun r1 hr1 => ?_)))))))
  refine a_ (g_ rfl) rfl (e_ (b_ rfl (E_ ?_)))
  exact ar_ Tryz.results84 () (y_ rfl hr1.symm) (d_ i_) (fun _ _ _ => trivial)
theorem gt_ (l : List Fc) (lad : Option Addr) (lcap : Nat) (mb : Nat) (es : Array MapEntry) (ce : Nat) (q : List Fc) (hE : SetE Fc.val es q) (hl : l.length ≤ 1000000000) : Tri Tryz.prog 83 #[.slice lad (List.length l) lcap, (.func (.func 84) #[.map (some mb)] #[])] [(mb, .map es ce)] [aw_ lad (List.flatMap Fc.cells l)] (fun y : {y : Option Addr × Nat // ((bP_ l q)).length ≤ y.2 ∧ y.2 ≤ maxLen ∧ (y.1 = none → y.2 = 0)} => .slice y.1.1 ((bP_ l q)).length y.1.2) (fun _ => [(mb, .map es ce)]) (fun y => [aw_ y.1.1 (((bP_ l q)).flatMap Fc.cells)]) := by
 refine T_ Tryz.func83 rfl rfl Tryz.ntmps83 rfl fun v0 => ?_
 refine h_ (c_ (a_ (g_ rfl) rfl (e_ (b_ rfl (jO_ (h_ (jP_ (b_ rfl (h_ ?_)))))))))
 refine h_ (c_ (a_ (f_ rfl) rfl (a_ (an_ H_ rfl) rfl (a_ (f_ rfl) rfl (e_ (b_ rfl (R_ ?_)))))))
 refine aI_ (ι := {y : Nat × Value × Hp // y.1 ≤ List.length l ∧ aO_ 41 6 y.2.1 (List.length (bP_ (List.take y.1 l) q)) (List.flatMap Fc.cells (bP_ (List.take y.1 l) q)) y.2.2}) (fun y => [(0, .slice lad (List.length l) lcap), (1, (.func (.func 84) #[.map (some mb)] #[])), (4, y.1.2.1), (7, .slice lad (List.length l) lcap), (8, .int .i64 (List.length l : Int)), (9, .int .i64 (y.1.1 : Int))]) (fun y => ((mb, .map es ce) :: y.1.2.2)) (fun y => [aw_ lad (List.flatMap Fc.cells l)]) (fun y => List.length l - y.1.1) ⟨((0 : Nat), (.slice none 0 0), []), by simp, (aO_.nil _ _)⟩ ⟨rfl, rfl, rfl, rfl, rfl, rfl, trivial⟩ i_ (fun _ _ h => h) ?_
 rintro ⟨⟨i, sv_Rfc, H_Rfc⟩, hi, hr_Rfc⟩
 dsimp only at hi hr_Rfc ⊢
 have hel := gu_ (List.take i l) q
 rw [List.length_take] at hel
 refine h_ (c_ (x_ (ay_ rfl rfl) rfl fun r1 hr1 => ?_))
 refine e_ (b_ rfl (h_ ?_))
 cases r1
 ·
  replace hr1 := of_decide_eq_false hr1
  refine v_ rfl (at_ rfl (b_ rfl (h_ (c_ (a_ (f_ rfl) rfl (a_ (g_ rfl) rfl (e_ (b_ rfl (E_ ?_)))))))))
  have e9 : (bP_ (List.take i l) q) = bP_ l q := by rw [List.take_of_length_le (by omega)]
  have hw1 : aO_ 41 6 sv_Rfc (List.length (bP_ l q)) (List.flatMap Fc.cells (bP_ l q)) H_Rfc := by have q9 := hr_Rfc; rw [e9] at q9; exact q9
  refine bi_ hw1 Q_ fun ad2 cp2 had2 hcad2 hmad2 hzad2 => ?_
  exact ar_ Tryz.results83 ⟨(ad2, cp2), hcad2, hmad2, hzad2⟩ (bV_ rfl had2) i_ (fun v _ h => ⟨h.1, trivial⟩)
 ·
  replace hr1 := of_decide_eq_true hr1
  have hlx1 : i < List.length l := by omega
  obtain ⟨x1, hx1⟩ : ∃ e0, l[i]? = some e0 := ⟨_, List.getElem?_eq_getElem hlx1⟩
  have hmx1 : x1 ∈ l := List.mem_of_getElem? hx1
  refine t_ rfl (z_ (b_ rfl (h_ (R_ (h_ (c_ (a_ (ab_ H_ D_ rfl rfl (fun v _ h => az_ (n := 6) Fc.cells_len (by decide) (by exact h.1) hx1) (by omega) (by first | omega | (simp; done))) rfl (a_ (aT_ (ad := lad) (us := Fc.cells x1) aj_ D_ rfl (fun v _ h => by exact h.1) (Fc.cells_len _) (af_ Fc.cells_len hx1)) rfl (ao_ al_ rfl fun b1 => ?_)))))))))
  refine S_ 0 D_ rfl rfl rfl rfl rfl rfl (e_ (b_ rfl (h_ (h_ (c_ (a_ (f_ rfl) rfl (a_ (X_ 0 aj_ D_ rfl rfl rfl) rfl (cr_ (first := [.map (some mb)]) (cap := []) (fhas_c mb es ce q hE x1) rfl rfl (d_ i_) (fun _ _ _ => by exact trivial) rfl fun r2 hr2 => ?_))))))))
  refine e_ (b_ rfl ?_)
  cases r2
  ·
   replace hr2 := dF hr2
   refine v_ rfl (z_ (b_ rfl (c_ (a_ (f_ rfl) rfl (a_ (X_ 1 aj_ D_ rfl rfl rfl) rfl (aK_ H_ D_ al_ rfl rfl rfl rfl rfl rfl fun b2 => ?_))))))
   refine br_ (news := List.flatMap Fc.cells [x1]) bZ_ hr_Rfc rfl rfl (d_ (d_ Q_)) rfl (cH_ 0 rfl) (fun u hu => aG_ Fc.cells_one hu) (by simp only [maxLen]; ((try simp only [List.length_append, List.length_cons, List.length_nil]); omega)) (by ((try simp only [List.length_append, List.length_cons, List.length_nil]); omega)) rfl fun sv2 Hr2 hr2 => ?_
   refine ak_ List.perm_append_comm ?_
   have hq2 : aO_ 41 6 sv2 (List.length ((bP_ (List.take i l) q) ++ [x1])) (List.flatMap Fc.cells ((bP_ (List.take i l) q) ++ [x1])) Hr2 := by rw [List.length_append, List.flatMap_append]; exact hr2
   refine a_ (g_ rfl) rfl (e_ (b_ rfl (c_ (a_ (P_ rfl rfl rfl (ah_ (by omega) (by omega))) rfl (a_ (f_ rfl) rfl (e_ (w_ rfl ?_)))))))
   exact Z_ ⟨(i + 1, sv2, Hr2), hlx1, (by rw [hD_ hx1, if_neg (by assumption)]; exact hq2)⟩ (by dsimp only; omega) ⟨rfl, rfl, rfl, rfl, rfl, rfl, trivial⟩ (k_ (d_ i_) (d_ Q_)) (fun _ _ h => h)
  ·
   replace hr2 := dT hr2
   refine t_ rfl (at_ rfl (b_ rfl (c_ (a_ (P_ rfl rfl rfl (ah_ (by omega) (by omega))) rfl (a_ (f_ rfl) rfl (e_ (w_ rfl ?_)))))))
   exact Z_ ⟨(i + 1, sv_Rfc, H_Rfc), hlx1, (by rw [hD_ hx1, if_pos (by assumption), List.append_nil]; exact hr_Rfc)⟩ (by dsimp only; omega) ⟨rfl, rfl, rfl, rfl, rfl, rfl, trivial⟩ (k_ i_ Q_) (fun _ _ h => h)
end Go.Proofs.YtpdbbglpbngeiaaGreatDoor
namespace Go.Proofs.YtpdbbglpbngeiaaGreatDoor
open Go Go.Sx Go.Proofs
attribute [local irreducible] Code.wp wpList wpAnyH
open Go.Vs
structure PL where
  l : List Pc
  ad : Option Addr
  cap : Nat
def PL.cells (x : PL) : List Value := [.slice x.ad x.l.length x.cap]
theorem PL.cells_len (x : PL) : x.cells.length = 1 := rfl
structure PL.ok (x : PL) : Prop where
  le : x.l.length ≤ x.cap
  nz : x.ad = none → x.cap = 0
  sh : x.l.length ≤ 100000
def plF (xs : List PL) : Fct where
  p v := ∀ x ∈ xs, bv_ v x.ad (List.flatMap Pc.cells x.l)
  mono := fun v v' h hp x hx => (aw_ x.ad (List.flatMap Pc.cells x.l)).mono v v' h (hp x hx)
def dL_ (xs : List PL) : List Pc := List.flatMap PL.l xs
theorem iJ_ {xs : List PL} {i : Nat} {x : PL} (h : xs[i]? = some x) : dL_ (xs.take (i + 1)) = dL_ (xs.take i) ++ x.l := bp_ h
theorem jU_ {xs : List PL} (h : ∀ x ∈ xs, x.ok) (i : Nat) : (dL_ (xs.take i)).length ≤ min i xs.length * 100000 := by
  have := dE_ (g := PL.l) (n := 100000) (xs.take i) fun x hx => (h x (List.mem_of_mem_take hx)).sh
  rwa [List.length_take] at this
theorem eqS_c (l m : List Str) (ad ae : Option Addr) (cap cpe : Nat) (hl : l.length ≤ 1000000000000) (hm : m.length ≤ 1000000000000) : Tri Tryz.prog 128 #[.slice ad (List.length l) cap, .slice ae (List.length m) cpe] [] [aw_ ad (List.flatMap aM_ l), aw_ ae (List.flatMap aM_ m)] (fun _ : Unit => .bool (decide (l = m))) (fun _ => []) (fun _ => []) := by
 refine T_ Tryz.func128 rfl rfl Tryz.ntmps128 rfl fun v0 => ?_
 refine h_ (c_ (a_ (g_ rfl) rfl (e_ (b_ rfl (h_ (h_ (c_ (a_ (f_ rfl) rfl (a_ (an_ B_ rfl) rfl ?_)))))))))
 refine a_ (f_ rfl) rfl (a_ (an_ B_ rfl) rfl (x_ (bL_ rfl rfl) rfl fun r1 hr1 => ?_))
 refine e_ (b_ rfl ?_)
 cases r1
 ·
  replace hr1 := aX_ hr1
  refine v_ rfl (z_ (b_ rfl (h_ (h_ (c_ (a_ (f_ rfl) rfl (a_ (an_ B_ rfl) rfl (a_ (f_ rfl) rfl (e_ ?_)))))))))
  refine b_ rfl (R_ ?_)
  have hlm : List.length l = List.length m := by omega
  refine aI_ (ι := {y : Nat // y ≤ List.length l ∧ List.take y l = List.take y m}) (fun y => [(0, .slice ad (List.length l) cap), (1, .slice ae (List.length m) cpe), (12, .int .i64 (List.length l : Int)), (13, .int .i64 (y.1 : Int))]) (fun y => ([])) (fun y => [aw_ ad (List.flatMap aM_ l), aw_ ae (List.flatMap aM_ m)]) (fun y => List.length l - y.1) ⟨(0 : Nat), by simp, by simp⟩ ⟨rfl, rfl, rfl, rfl, trivial⟩ I_ (fun _ _ h => h) ?_
  rintro ⟨i, hi, he⟩
  dsimp only at hi he ⊢
  refine h_ (c_ (x_ (ay_ rfl rfl) rfl fun r2 hr2 => ?_))
  refine e_ (b_ rfl (h_ ?_))
  cases r2
  ·
   replace hr2 := of_decide_eq_false hr2
   refine v_ rfl (at_ rfl (b_ rfl (h_ (c_ (a_ (g_ rfl) rfl (e_ (b_ rfl (E_ ?_))))))))
   exact ar_ Tryz.results128 () (y_ rfl (by symm; apply decide_eq_true; rwa [List.take_of_length_le (by omega), List.take_of_length_le (by omega)] at he)) I_ (fun _ _ _ => trivial)
  ·
   replace hr2 := of_decide_eq_true hr2
   have hlx1 : i < List.length l := by omega
   obtain ⟨x1, hx1⟩ : ∃ e0, l[i]? = some e0 := ⟨_, List.getElem?_eq_getElem hlx1⟩
   have hmx1 : x1 ∈ l := List.mem_of_getElem? hx1
   have hlx2 : i < List.length m := by omega
   obtain ⟨x2, hx2⟩ : ∃ e0, m[i]? = some e0 := ⟨_, List.getElem?_eq_getElem hlx2⟩
   have hmx2 : x2 ∈ m := List.mem_of_getElem? hx2
   refine t_ rfl (z_ (b_ rfl (h_ (R_ (h_ (c_ (a_ (f_ rfl) rfl (a_ (g_ rfl) rfl (e_ ?_)))))))))
   refine b_ rfl (h_ ?_)
   refine aP_ (by kernel_rfl) ?_
   refine ae_ 0 [0, 1, 2, 3, 4, 5, 6, 7, 8] (by kernel_rfl) (fun _ a b => ⟨bE_ a, b⟩) (n_ rfl (f_ rfl) rfl (n_ rfl (f_ rfl) rfl (n_ rfl (ab_ B_ j_ rfl rfl (fun v _ h => az_ (n := 1) as_ (by decide) (by exact h.1) hx1) (by omega) (by first | omega | (simp; done))) rfl (n_ rfl (aL_ (ad := ad) q_ rfl (fun v _ h => by exact h.1) (af_ as_ hx1 0 _ rfl)) rfl (n_ rfl (f_ rfl) rfl (n_ rfl (f_ rfl) rfl (n_ rfl (ab_ B_ j_ rfl rfl (fun v _ h => az_ (n := 1) as_ (by decide) (by exact h.2.1) hx2) (by omega) (by first | omega | (simp; done))) rfl (n_ rfl (aL_ (ad := ae) q_ rfl (fun v _ h => by exact h.2.1) (af_ as_ hx2 0 _ rfl)) rfl ?_))))))))
   refine cj_ rfl (dK_ rfl rfl) rfl fun r3 hr3 => ?_
   refine ad_ (aa_ (by kernel_rfl) (b_ rfl ?_))
   cases r3
   ·
    replace hr3 := aX_ hr3
    refine v_ rfl (z_ (b_ rfl (c_ (a_ (P_ rfl rfl rfl (ah_ (by omega) (by omega))) rfl (a_ (f_ rfl) rfl (e_ (w_ rfl ?_)))))))
    exact Z_ ⟨i + 1, hlx1, by rw [List.take_add_one, hx1, List.take_add_one, hx2, he]; simp_all⟩ (by dsimp only; omega) ⟨rfl, rfl, rfl, rfl, trivial⟩ I_ (fun _ _ h => h)
   ·
    replace hr3 := aW_ hr3
    refine t_ rfl (h_ (c_ (a_ (g_ rfl) rfl (e_ (b_ rfl (E_ ?_))))))
    exact ar_ Tryz.results128 () (y_ rfl (by symm; apply decide_eq_false; intro e; subst e; rw [hx1] at hx2; simp_all)) I_ (fun _ _ _ => trivial)
 ·
  replace hr1 := aW_ hr1
  refine t_ rfl (h_ (c_ (a_ (g_ rfl) rfl (e_ (b_ rfl (E_ ?_))))))
  exact ar_ Tryz.results128 () (y_ rfl (by symm; apply decide_eq_false; intro e; subst e; omega)) I_ (fun _ _ _ => trivial)
theorem eqF_c (l m : List Fc) (ad ae : Option Addr) (cap cpe : Nat) (hl : l.length ≤ 1000000000000) (hm : m.length ≤ 1000000000000) : Tri Tryz.prog 129 #[.slice ad (List.length l) cap, .slice ae (List.length m) cpe] [] [aw_ ad (List.flatMap Fc.cells l), aw_ ae (List.flatMap Fc.cells m)] (fun _ : Unit => .bool (decide (l = m))) (fun _ => []) (fun _ => []) := by
 refine T_ Tryz.func129 rfl rfl Tryz.ntmps129 rfl fun v0 => ?_
 refine h_ (c_ (a_ (g_ rfl) rfl (e_ (b_ rfl (h_ (h_ (c_ (a_ (f_ rfl) rfl (a_ (an_ H_ rfl) rfl ?_)))))))))
 refine a_ (f_ rfl) rfl (a_ (an_ H_ rfl) rfl (x_ (bL_ rfl rfl) rfl fun r1 hr1 => ?_))
 refine e_ (b_ rfl ?_)
 cases r1
 ·
  replace hr1 := aX_ hr1
  refine v_ rfl (z_ (b_ rfl (h_ (h_ (c_ (a_ (f_ rfl) rfl (a_ (an_ H_ rfl) rfl (a_ (f_ rfl) rfl (e_ ?_)))))))))
  refine b_ rfl (R_ ?_)
  have hlm : List.length l = List.length m := by omega
  refine aI_ (ι := {y : Nat // y ≤ List.length l ∧ List.take y l = List.take y m}) (fun y => [(0, .slice ad (List.length l) cap), (1, .slice ae (List.length m) cpe), (12, .int .i64 (List.length l : Int)), (13, .int .i64 (y.1 : Int))]) (fun y => ([])) (fun y => [aw_ ad (List.flatMap Fc.cells l), aw_ ae (List.flatMap Fc.cells m)]) (fun y => List.length l - y.1) ⟨(0 : Nat), by simp, by simp⟩ ⟨rfl, rfl, rfl, rfl, trivial⟩ I_ (fun _ _ h => h) ?_
  rintro ⟨i, hi, he⟩
  dsimp only at hi he ⊢
  refine h_ (c_ (x_ (ay_ rfl rfl) rfl fun r2 hr2 => ?_))
  refine e_ (b_ rfl (h_ ?_))
  cases r2
  ·
   replace hr2 := of_decide_eq_false hr2
   refine v_ rfl (at_ rfl (b_ rfl (h_ (c_ (a_ (g_ rfl) rfl (e_ (b_ rfl (E_ ?_))))))))
   exact ar_ Tryz.results129 () (y_ rfl (by symm; apply decide_eq_true; rwa [List.take_of_length_le (by omega), List.take_of_length_le (by omega)] at he)) I_ (fun _ _ _ => trivial)
  ·
   replace hr2 := of_decide_eq_true hr2
   have hlx1 : i < List.length l := by omega
   obtain ⟨x1, hx1⟩ : ∃ e0, l[i]? = some e0 := ⟨_, List.getElem?_eq_getElem hlx1⟩
   have hmx1 : x1 ∈ l := List.mem_of_getElem? hx1
   have hlx2 : i < List.length m := by omega
   obtain ⟨x2, hx2⟩ : ∃ e0, m[i]? = some e0 := ⟨_, List.getElem?_eq_getElem hlx2⟩
   have hmx2 : x2 ∈ m := List.mem_of_getElem? hx2
   refine t_ rfl (z_ (b_ rfl (h_ (R_ (h_ (c_ (a_ (f_ rfl) rfl (a_ (g_ rfl) rfl (e_ ?_)))))))))
   refine b_ rfl (h_ ?_)
   refine aP_ (by kernel_rfl) ?_
   refine ae_ 0 [0, 1, 2, 3, 4, 5, 6, 7, 8] (by kernel_rfl) (fun _ a b => ⟨bE_ a, b⟩) (n_ rfl (f_ rfl) rfl (n_ rfl (f_ rfl) rfl (n_ rfl (ab_ H_ D_ rfl rfl (fun v _ h => az_ (n := 6) Fc.cells_len (by decide) (by exact h.1) hx1) (by omega) (by first | omega | (simp; done))) rfl (n_ rfl (aT_ (ad := ad) (us := Fc.cells x1) aj_ D_ rfl (fun v _ h => by exact h.1) (Fc.cells_len _) (af_ Fc.cells_len hx1)) rfl (n_ rfl (f_ rfl) rfl (n_ rfl (f_ rfl) rfl (n_ rfl (ab_ H_ D_ rfl rfl (fun v _ h => az_ (n := 6) Fc.cells_len (by decide) (by exact h.2.1) hx2) (by omega) (by first | omega | (simp; done))) rfl (n_ rfl (aT_ (ad := ae) (us := Fc.cells x2) aj_ D_ rfl (fun v _ h => by exact h.2.1) (Fc.cells_len _) (af_ Fc.cells_len hx2)) rfl ?_))))))))
   refine cj_ rfl (eW_ (p := x1) (q := x2) rfl rfl) rfl fun r3 hr3 => ?_
   refine ad_ (aa_ (by kernel_rfl) (b_ rfl ?_))
   cases r3
   ·
    replace hr3 := of_decide_eq_false hr3
    refine v_ rfl (z_ (b_ rfl (c_ (a_ (P_ rfl rfl rfl (ah_ (by omega) (by omega))) rfl (a_ (f_ rfl) rfl (e_ (w_ rfl ?_)))))))
    exact Z_ ⟨i + 1, hlx1, by rw [List.take_add_one, hx1, List.take_add_one, hx2, he]; simp_all⟩ (by dsimp only; omega) ⟨rfl, rfl, rfl, rfl, trivial⟩ I_ (fun _ _ h => h)
   ·
    replace hr3 := of_decide_eq_true hr3
    refine t_ rfl (h_ (c_ (a_ (g_ rfl) rfl (e_ (b_ rfl (E_ ?_))))))
    exact ar_ Tryz.results129 () (y_ rfl (by symm; apply decide_eq_false; intro e; subst e; rw [hx1] at hx2; simp_all)) I_ (fun _ _ _ => trivial)
 ·
  replace hr1 := aW_ hr1
  refine t_ rfl (h_ (c_ (a_ (g_ rfl) rfl (e_ (b_ rfl (E_ ?_))))))
  exact ar_ Tryz.results129 () (y_ rfl (by symm; apply decide_eq_false; intro e; subst e; omega)) I_ (fun _ _ _ => trivial)
theorem oo_ (c d : Cl) (h1 : c.atoms.length ≤ 1000000000000) (h2 : c.facts.length ≤ 1000000000000) (h3 : d.atoms.length ≤ 1000000000000) (h4 : d.facts.length ≤ 1000000000000) : Tri Tryz.prog 79 #[Cl.val c, Cl.val d] [] [aw_ (Cl.aad c) (List.flatMap aM_ (Cl.atoms c)), aw_ (Cl.fad c) (List.flatMap Fc.cells (Cl.facts c)), aw_ (Cl.aad d) (List.flatMap aM_ (Cl.atoms d)), aw_ (Cl.fad d) (List.flatMap Fc.cells (Cl.facts d))] (fun _ : Unit => .bool (decide (c.atoms = d.atoms) && decide (c.facts = d.facts))) (fun _ => []) (fun _ => []) := by
  refine T_ Tryz.func79 rfl rfl Tryz.ntmps79 rfl fun v0 => ?_
  refine h_ (c_ (bs_ rfl rfl fun b1 => ?_))
  refine bs_ rfl rfl fun b2 => ?_
  refine a_ (g_ rfl) rfl (e_ (b_ rfl (h_ (c_ (a_ (m_ aJ_ rfl rfl rfl cU_) rfl (a_ (u_ 1 gs_ rfl rfl rfl) rfl (a_ (m_ aJ_ rfl rfl rfl cU_) rfl (a_ (u_ 0 gs_ rfl rfl rfl) rfl (au_ (eqS_c (Cl.atoms c) (Cl.atoms d) (Cl.aad c) (Cl.aad d) (Cl.acap c) (Cl.acap d) (by omega) (by omega)) rfl I_ (fun v _ h => by exact ⟨h.1, h.2.2.1, trivial⟩) rfl fun r1 hr1 => ?_)))))))))
  refine a_ (f_ rfl) rfl ?_
  cases r1
  · skip
    replace hr1 := of_decide_eq_false hr1
    refine r_ rfl rfl rfl rfl (r_ rfl rfl rfl rfl (r_ rfl rfl rfl rfl (r_ rfl rfl rfl rfl (r_ rfl rfl rfl rfl (a_ (C_ rfl rfl) rfl (a_ (g_ rfl) rfl (e_ (b_ rfl (E_ ?_)))))))))
    exact ar_ Tryz.results79 () (y_ rfl (by have p1 := eq_false hr1; simp only [p1, if_true, if_false, decide_true, decide_false, Bool.and_true, Bool.and_false, Bool.true_and, Bool.false_and, Bool.or_true, Bool.or_false, Bool.true_or, Bool.false_or, Bool.not_true, Bool.not_false, ne_eq, not_true_eq_false, not_false_eq_true, true_and, and_true, false_and, and_false, true_or, or_true, false_or, or_false, ite_true, ite_false, Bool.false_eq_true])) I_ (fun _ _ _ => trivial)
  · skip
    replace hr1 := of_decide_eq_true hr1
    refine p_ rfl rfl (a_ (m_ aJ_ rfl rfl rfl bB_) rfl (p_ rfl rfl (a_ (u_ 1 bI_ rfl rfl rfl) rfl (p_ rfl rfl (a_ (m_ aJ_ rfl rfl rfl bB_) rfl (p_ rfl rfl (a_ (u_ 0 bI_ rfl rfl rfl) rfl (p_ rfl rfl (au_ (eqF_c (Cl.facts c) (Cl.facts d) (Cl.fad c) (Cl.fad d) (Cl.fcap c) (Cl.fcap d) (by omega) (by omega)) rfl I_ (fun v _ h => by exact ⟨h.2.1, h.2.2.2.1, trivial⟩) rfl fun r2 hr2 => ?_)))))))))
    refine a_ (F_ rfl rfl) rfl (a_ (g_ rfl) rfl (e_ (b_ rfl (E_ ?_))))
    exact ar_ Tryz.results79 () (y_ rfl (by have p1 := eq_true hr1; rw [← hr2]; simp only [p1, if_true, if_false, decide_true, decide_false, Bool.and_true, Bool.and_false, Bool.true_and, Bool.false_and, Bool.or_true, Bool.or_false, Bool.true_or, Bool.false_or, Bool.not_true, Bool.not_false, ne_eq, not_true_eq_false, not_false_eq_true, true_and, and_true, false_and, and_false, true_or, or_true, false_or, or_false, ite_true, ite_false, Bool.false_eq_true])) I_ (fun _ _ _ => trivial)
def jw_ (w : Wk) (e : Int) : Prop := if bC_ w.ps ≠ 0 then e = bC_ w.ps else ∃ c e1, dG_ w.ps 1073741824 c e1 ∧ e = if e1 = 0 ∧ c.atoms = w.cl.atoms ∧ c.facts = w.cl.facts then 0 else 1
theorem jw_.uniq {w : Wk} {e f : Int} (h : jw_ w e) (k : jw_ w f) : e = f := by
  unfold jw_ at h k
  split at h
  · rename_i h1; rw [if_pos h1] at k; rw [h, k]
  · rename_i h1
    rw [if_neg h1] at k
    obtain ⟨c, e1, a1, b1⟩ := h
    obtain ⟨d, e2, a2, b2⟩ := k
    obtain ⟨q1, q2, q3⟩ := kg_ a1 a2
    rw [b1, b2, q1, q2, q3]
theorem chkW_c (w : Wk) (hsm : ∀ x ∈ w.ps, x.sm) (hp : w.ps.length ≤ 100000000) (h3 : w.cl.atoms.length ≤ 1000000000000) (h4 : w.cl.facts.length ≤ 1000000000000) : Tri Tryz.prog 37 #[Wk.val w] [] [aw_ (Wk.pad w) (List.flatMap Pc.cells (Wk.ps w)), aw_ (Cl.aad (Wk.cl w)) (List.flatMap aM_ (Cl.atoms (Wk.cl w))), aw_ (Cl.fad (Wk.cl w)) (List.flatMap Fc.cells (Cl.facts (Wk.cl w))), gi_] (fun e : {e : Int // jw_ w e} => .int .i64 e.1) (fun _ => []) (fun _ => []) := by
  refine T_ Tryz.func37 rfl rfl Tryz.ntmps37 rfl fun v0 => ?_
  refine h_ (c_ (bs_ rfl rfl fun b1 => ?_))
  refine a_ (g_ rfl) rfl (e_ (b_ rfl (h_ (h_ (c_ (a_ (m_ aS_ rfl rfl rfl ca_) rfl (a_ (u_ 0 da_ rfl rfl rfl) rfl (W_ (kG_ (Wk.ps w) (Wk.pad w) (Wk.pcap w) (by omega) hsm) rfl I_ (fun v _ h => by exact ⟨h.1, h.2.2.2.1, trivial⟩) rfl fun _ => ?_))))))))
  refine a_ (g_ rfl) rfl (e_ (b_ rfl (h_ (c_ (a_ (f_ rfl) rfl (x_ (bL_ rfl rfl) rfl fun r1 hr1 => ?_))))))
  refine e_ (b_ rfl ?_)
  cases r1
  · skip
    replace hr1 := aX_ hr1
    have hckw := hr1
    refine v_ rfl (z_ (b_ rfl (h_ (c_ (a_ (m_ aS_ rfl rfl rfl ca_) rfl (a_ (u_ 0 da_ rfl rfl rfl) rfl (W_ (qy_ (Wk.ps w) (Wk.pad w) (Wk.pcap w) 1073741824 hsm (by omega)) rfl I_ (fun v _ h => by exact ⟨h.1, h.2.2.2.1, trivial⟩) rfl fun ⟨⟨c1, e1⟩, hA1⟩ => ?_)))))))
    dsimp only
    dsimp only at hA1
    refine a_ (f_ rfl) rfl (a_ (Y_ rfl rfl) rfl (a_ (Y_ rfl rfl) rfl (ao_ en_ rfl fun b2 => ?_)))
    refine S_ 0 ac_ rfl rfl rfl rfl rfl rfl (a_ (g_ rfl) rfl (e_ (b_ rfl (h_ (h_ (c_ (a_ (f_ rfl) rfl (x_ (bL_ rfl rfl) rfl fun r2 hr2 => ?_))))))))
    refine a_ (f_ rfl) rfl ?_
    cases r2
    · skip
      replace hr2 := aX_ hr2
      refine p_ rfl rfl (a_ (X_ 0 aV_ ac_ rfl rfl rfl) rfl (p_ rfl rfl (a_ (m_ aS_ rfl rfl rfl ac_) rfl (p_ rfl rfl (a_ (X_ 1 aV_ ac_ rfl rfl rfl) rfl (p_ rfl rfl (au_ (oo_ c1 (Wk.cl w) (by have := hA1.len; omega) (by have := hA1.len; omega) (by omega) (by omega)) rfl I_ (fun v _ h => by exact ⟨h.1, h.2.1, h.2.2.2.1, h.2.2.2.2.1, trivial⟩) rfl fun r3 hr3 => ?_)))))))
      refine p_ rfl rfl (a_ (cb_ rfl) rfl (a_ (C_ rfl rfl) rfl (e_ (b_ rfl ?_))))
      cases r3
      · skip
        simp at hr3
        refine t_ rfl (h_ (c_ (a_ (g_ rfl) rfl (e_ (b_ rfl (E_ ?_))))))
        exact ar_ Tryz.results37 ⟨1, by unfold jw_; rw [if_neg (fun q => q hckw)]; exact ⟨c1, e1, hA1, by rw [if_neg (fun q => by first | exact absurd q.1 (by assumption) | (have := q.2; simp_all))]⟩⟩ rfl I_ (fun _ _ _ => trivial)
      · skip
        simp at hr3
        refine v_ rfl (z_ (b_ rfl (h_ (c_ (a_ (g_ rfl) rfl (e_ (b_ rfl (E_ ?_))))))))
        exact ar_ Tryz.results37 ⟨0, by unfold jw_; rw [if_neg (fun q => q hckw)]; exact ⟨c1, e1, hA1, by rw [if_pos ⟨by assumption, by simpa using hr3⟩]⟩⟩ rfl I_ (fun _ _ _ => trivial)
    · skip
      replace hr2 := aW_ hr2
      refine r_ rfl rfl rfl rfl (r_ rfl rfl rfl rfl (r_ rfl rfl rfl rfl (r_ rfl rfl rfl rfl (r_ rfl rfl rfl rfl (a_ (F_ rfl rfl) rfl (e_ (b_ rfl (t_ rfl (h_ ?_)))))))))
      refine c_ (a_ (g_ rfl) rfl (e_ (b_ rfl (E_ ?_))))
      exact ar_ Tryz.results37 ⟨1, by unfold jw_; rw [if_neg (fun q => q hckw)]; exact ⟨c1, e1, hA1, by rw [if_neg (fun q => by first | exact absurd q.1 (by assumption) | (have := q.2; simp_all))]⟩⟩ rfl I_ (fun _ _ _ => trivial)
  · skip
    replace hr1 := aW_ hr1
    refine t_ rfl (h_ (c_ (a_ (f_ rfl) rfl (a_ (g_ rfl) rfl (e_ (b_ rfl (E_ ?_)))))))
    exact ar_ Tryz.results37 ⟨(bC_ (Wk.ps w)), by unfold jw_; rw [if_pos (by assumption)]⟩ rfl I_ (fun _ _ _ => trivial)
theorem qc_ (n : Nat) (hn : n ≤ 1000000000) : Tri Tryz.prog 130 #[.slice none 0 0, .int .i64 (n : Int)] [] [] (fun y : {y : Value × Hp // aO_ 47 10 y.1 0 [] y.2} => y.1.1) (fun y => y.1.2) (fun _ => []) := by
  refine T_ Tryz.func130 rfl rfl Tryz.ntmps130 rfl fun v0 => ?_
  refine h_ (c_ (a_ (g_ rfl) rfl (e_ (b_ rfl (h_ (h_ (c_ (a_ (f_ rfl) rfl (x_ (ay_ rfl rfl) rfl fun r1 hr1 => ?_)))))))))
  refine e_ (b_ rfl ?_)
  cases r1
  · skip
    replace hr1 := of_decide_eq_false hr1
    refine v_ rfl (z_ (b_ rfl (h_ (h_ (c_ (a_ (f_ rfl) rfl (a_ (f_ rfl) rfl (a_ (kW_ G_ rfl) rfl (a_ (f_ rfl) rfl ?_)))))))))
    refine a_ (an_ G_ rfl) rfl (a_ (P_ rfl rfl rfl (ah_ (by omega) (by omega))) rfl (a_ (bA_ (P_ rfl rfl rfl (ah_ (by omega) (by omega))) (show Value.int .i64 ((n : Int) - (0 - 0)) = Value.int .i64 (n : Int) from congrArg _ (by omega))) rfl (a_ (g_ rfl) rfl (e_ (b_ rfl (h_ (c_ (a_ (f_ rfl) rfl (x_ (cd_ rfl rfl) rfl fun r2 hr2 => ?_)))))))))
    refine e_ (b_ rfl ?_)
    cases r2
    · skip
      replace hr2 := of_decide_eq_false hr2
      refine v_ rfl (z_ (b_ rfl (h_ (c_ (a_ (f_ rfl) rfl (a_ (g_ rfl) rfl (e_ (b_ rfl (E_ ?_)))))))))
      exact ar_ Tryz.results130 ⟨(.slice none 0 0, []), aO_.nil _ _⟩ rfl I_ (fun _ _ _ => trivial)
    · skip
      replace hr2 := of_decide_eq_true hr2
      refine t_ rfl (c_ (a_ (f_ rfl) rfl (a_ (f_ rfl) rfl (a_ (kW_ G_ rfl) rfl (a_ (bA_ (ch_ (i := 0) (j := 0) (kl := .i64) (kh := .i64) G_ M_ rfl rfl rfl (by omega) (by omega)) (show _ = Value.slice none 0 0 from rfl)) rfl (a_ (f_ rfl) rfl (lz_ (n := n) eD_ bQ_ rfl rfl (by omega) (by omega) (by simp only [maxLen]; omega) rfl fun yz bz hz => ?_)))))))
      refine a_ (f_ rfl) rfl (a_ (an_ G_ rfl) rfl (a_ (bA_ (ch_ (i := 0) (j := 0) (kl := .i64) (kh := .i64) G_ M_ rfl rfl rfl (by omega) (by omega)) (show _ = Value.slice (some ⟨bz, 0, none⟩) 0 yz.1 by simp [lg_])) rfl (a_ (g_ rfl) rfl (e_ (b_ rfl (h_ (c_ (a_ (f_ rfl) rfl (a_ (g_ rfl) rfl ?_)))))))))
      refine e_ (b_ rfl (E_ ?_))
      exact ar_ Tryz.results130 ⟨(.slice (some ⟨bz, 0, none⟩) 0 yz.1, [(bz, .cells yz.2 47 (0, 0))]), nk_ hz.2.1 hz.2.2⟩ rfl i_ (fun _ _ _ => trivial)
  · skip
    replace hr1 := of_decide_eq_true hr1
    exfalso; omega
theorem ph_ (xs : List PL) (xad : Option Addr) (xcap : Nat) (hok : ∀ x ∈ xs, x.ok) (hl : xs.length ≤ 100) : Tri Tryz.prog 81 #[.slice xad (List.length xs) xcap] [] [aw_ xad (List.flatMap PL.cells xs), plF xs] (fun y : {y : Option Addr × Nat // ((dL_ xs)).length ≤ y.2 ∧ y.2 ≤ maxLen ∧ (y.1 = none → y.2 = 0)} => .slice y.1.1 ((dL_ xs)).length y.1.2) (fun _ => []) (fun y => [aw_ y.1.1 (((dL_ xs)).flatMap Pc.cells)]) := by
 refine T_ Tryz.func81 rfl rfl Tryz.ntmps81 rfl fun v0 => ?_
 refine h_ (c_ (a_ (g_ rfl) rfl (e_ (b_ rfl (h_ (c_ (a_ (g_ rfl) rfl (e_ (b_ rfl ?_)))))))))
 refine h_ (h_ (c_ (a_ (f_ rfl) rfl (a_ (an_ dl_ rfl) rfl (a_ (f_ rfl) rfl (e_ (b_ rfl (R_ ?_))))))))
 refine aI_ (ι := {y : Nat × Nat // y.1 ≤ List.length xs ∧ y.2 ≤ y.1 * 100000}) (fun y => [(0, .slice xad (List.length xs) xcap), (3, .int .i64 (y.1.2 : Int)), (9, .slice xad (List.length xs) xcap), (10, .int .i64 (List.length xs : Int)), (11, .int .i64 (y.1.1 : Int))]) (fun y => ([])) (fun y => [aw_ xad (List.flatMap PL.cells xs), plF xs]) (fun y => List.length xs - y.1.1) ⟨((0 : Nat), (0 : Nat)), by simp, by simp⟩ ⟨rfl, rfl, rfl, rfl, rfl, trivial⟩ I_ (fun _ _ h => h) ?_
 rintro ⟨⟨i, w⟩, hi, hw⟩
 dsimp only at hi hw ⊢
 refine h_ (c_ (x_ (ay_ rfl rfl) rfl fun r1 hr1 => ?_))
 refine e_ (b_ rfl (h_ ?_))
 cases r1
 ·
  replace hr1 := of_decide_eq_false hr1
  refine v_ rfl (at_ rfl (b_ rfl (h_ (c_ (a_ (f_ rfl) rfl (W_ (qc_ w (by omega)) rfl I_ (fun _ _ _ => by exact trivial) rfl fun ⟨⟨svg9, Hg9⟩, hg9⟩ => ?_))))))
  dsimp only
  dsimp only at hg9
  refine ak_ fj_ ?_
  have hg8 : aO_ 47 10 svg9 (List.length (dL_ (List.take 0 xs))) (List.flatMap Pc.cells (dL_ (List.take 0 xs))) Hg9 := by exact hg9
  refine a_ (g_ rfl) rfl (e_ (b_ rfl (h_ (h_ (c_ (a_ (f_ rfl) rfl (a_ (an_ dl_ rfl) rfl (a_ (f_ rfl) rfl (e_ ?_)))))))))
  refine b_ rfl (R_ ?_)
  refine aI_ (ι := {y : Nat × Value × Hp // y.1 ≤ List.length xs ∧ aO_ 47 10 y.2.1 (List.length (dL_ (List.take y.1 xs))) (List.flatMap Pc.cells (dL_ (List.take y.1 xs))) y.2.2}) (fun y => [(0, .slice xad (List.length xs) xcap), (6, y.1.2.1), (25, .slice xad (List.length xs) xcap), (26, .int .i64 (List.length xs : Int)), (27, .int .i64 (y.1.1 : Int))]) (fun y => (y.1.2.2)) (fun y => [aw_ xad (List.flatMap PL.cells xs), plF xs]) (fun y => List.length xs - y.1.1) ⟨((0 : Nat), svg9, Hg9), by simp, hg8⟩ ⟨rfl, rfl, rfl, rfl, rfl, trivial⟩ aD_ (fun _ _ h => h) ?_
  rintro ⟨⟨j, sv_Rp, H_Rp⟩, hj, hr_Rp⟩
  dsimp only at hj hr_Rp ⊢
  have hpl := jU_ hok j
  refine h_ (c_ (x_ (ay_ rfl rfl) rfl fun r2 hr2 => ?_))
  refine e_ (b_ rfl (h_ ?_))
  cases r2
  ·
   replace hr2 := of_decide_eq_false hr2
   rw [List.take_of_length_le (by omega)] at hr_Rp
   refine v_ rfl (at_ rfl (b_ rfl (h_ (c_ (a_ (f_ rfl) rfl (a_ (g_ rfl) rfl (e_ (b_ rfl (E_ ?_)))))))))
   refine bi_ hr_Rp aD_ fun ad2 cp2 had2 hcad2 hmad2 hzad2 => ?_
   exact ar_ Tryz.results81 ⟨(ad2, cp2), hcad2, hmad2, hzad2⟩ (bV_ rfl had2) I_ (fun v _ h => ⟨h.1, trivial⟩)
  ·
   replace hr2 := of_decide_eq_true hr2
   have hlx2 : j < List.length xs := by omega
   obtain ⟨x2, hx2⟩ : ∃ e0, xs[j]? = some e0 := ⟨_, List.getElem?_eq_getElem hlx2⟩
   have hmx2 : x2 ∈ xs := List.mem_of_getElem? hx2
   have hsh1 := (hok x2 hmx2).sh
   refine t_ rfl (z_ (b_ rfl (h_ (R_ (h_ (c_ (a_ (ab_ dl_ ca_ rfl rfl (fun v _ h => az_ (n := 1) PL.cells_len (by decide) (by exact h.1) hx2) (by omega) (by first | omega | (simp; done))) rfl (a_ (aL_ (ad := xad) da_ rfl (fun v _ h => by exact h.1) (af_ PL.cells_len hx2 0 _ rfl)) rfl (a_ (g_ rfl) rfl ?_)))))))))
   refine e_ (b_ rfl (c_ (a_ (f_ rfl) rfl (a_ (f_ rfl) rfl (aB_ (news := List.flatMap Pc.cells (PL.l x2)) eD_ hr_Rp rfl rfl (hok x2 hmx2).nz (hok x2 hmx2).le aD_ (by rw [bg_ Pc.cells 10 Pc.cells_len]) (fun v _ h => by exact (h.2.1 x2 hmx2)) (fun u hu => aG_ Pc.cells_one hu) (by simp only [maxLen]; (have := (hok x2 hmx2).sh; omega)) (by (have := (hok x2 hmx2).sh; omega)) rfl fun sv1 Hr1 hr1 => ?_)))))
   refine ak_ List.perm_append_comm ?_
   have hq1 : aO_ 47 10 sv1 (List.length ((dL_ (List.take j xs)) ++ (PL.l x2))) (List.flatMap Pc.cells ((dL_ (List.take j xs)) ++ (PL.l x2))) Hr1 := by rw [List.length_append, List.flatMap_append]; exact hr1
   refine a_ (g_ rfl) rfl (e_ (b_ rfl (c_ (a_ (P_ rfl rfl rfl (ah_ (by omega) (by omega))) rfl (a_ (f_ rfl) rfl (e_ (w_ rfl ?_)))))))
   exact Z_ ⟨(j + 1, sv1, Hr1), hlx2, (by rw [iJ_ hx2]; exact hq1)⟩ (by dsimp only; omega) ⟨rfl, rfl, rfl, rfl, rfl, trivial⟩ aD_ (fun _ _ h => h)
 ·
  replace hr1 := of_decide_eq_true hr1
  have hlx1 : i < List.length xs := by omega
  obtain ⟨x1, hx1⟩ : ∃ e0, xs[i]? = some e0 := ⟨_, List.getElem?_eq_getElem hlx1⟩
  have hmx1 : x1 ∈ xs := List.mem_of_getElem? hx1
  have hsh1 := (hok x1 hmx1).sh
  refine t_ rfl (z_ (b_ rfl (h_ (R_ (h_ (c_ (a_ (ab_ dl_ ca_ rfl rfl (fun v _ h => az_ (n := 1) PL.cells_len (by decide) (by exact h.1) hx1) (by omega) (by first | omega | (simp; done))) rfl (a_ (aL_ (ad := xad) da_ rfl (fun v _ h => by exact h.1) (af_ PL.cells_len hx1 0 _ rfl)) rfl (a_ (g_ rfl) rfl ?_)))))))))
  refine e_ (b_ rfl (h_ (c_ (a_ (f_ rfl) rfl (a_ (f_ rfl) rfl (a_ (an_ G_ rfl) rfl (a_ (P_ rfl rfl rfl (ah_ (by omega) (by omega))) rfl (a_ (g_ rfl) rfl (e_ ?_)))))))))
  refine b_ rfl (h_ (c_ (a_ (f_ rfl) rfl (x_ (ay_ rfl rfl) rfl fun r3 hr3 => ?_))))
  refine e_ (b_ rfl ?_)
  cases r3
  ·
   replace hr3 := of_decide_eq_false hr3
   refine v_ rfl (z_ (b_ rfl (c_ (a_ (P_ rfl rfl rfl (ah_ (by omega) (by omega))) rfl (a_ (f_ rfl) rfl (e_ (w_ rfl ?_)))))))
   exact Z_ ⟨(i + 1, w + List.length (PL.l x1)), hlx1, by have := (hok x1 hmx1).sh; dsimp only; omega⟩ (by dsimp only; omega) ⟨rfl, (ck_ rfl (by push_cast; rfl)), rfl, rfl, rfl, trivial⟩ I_ (fun _ _ h => h)
  ·
   replace hr3 := of_decide_eq_true hr3
   exfalso; omega
end Go.Proofs.YtpdbbglpbngeiaaGreatDoor
namespace Go.Proofs.YtpdbbglpbngeiaaGreatDoor
open Go Go.Sx Go.Proofs
attribute [local irreducible] Code.wp wpList wpAnyH
open Go.Vs
theorem keyI : KeyT Tryz.prog 3 (fun n : Int => .int .i64 n) := oU_ bQ_
def eR_ (w : Wk) (p : List Pc) (bu : Int) (x : Wk) (new : List Fc) (e : Int) : Prop :=
  if bC_ p ≠ 0 then x = Wk.no ∧ new = [] ∧ e = bC_ p
  else if ¬ (0 ≤ bu ∧ bu ≤ 1073741824) then x = Wk.no ∧ new = [] ∧ e = 1
  else if 16384 < w.ps.length + p.length then x = Wk.no ∧ new = [] ∧ e = 2
  else dh_ (w.ps ++ p) bu x e ∧ new = if e = 0 then bP_ x.cl.facts w.cl.facts else []
theorem eR_.good {w : Wk} {p : List Pc} {bu : Int} {x : Wk} {new : List Fc} (h : eR_ w p bu x new 0) : bC_ p = 0 ∧ (0 ≤ bu ∧ bu ≤ 1073741824) ∧ w.ps.length + p.length ≤ 16384 ∧ dh_ (w.ps ++ p) bu x 0 ∧ new = bP_ x.cl.facts w.cl.facts := by
  unfold eR_ at h
  split at h
  · rename_i h1; exact absurd h.2.2.symm h1
  · rename_i h1
    split at h
    · exact absurd h.2.2 (by decide)
    · rename_i h2
      split at h
      · exact absurd h.2.2 (by decide)
      · rename_i h3
        exact ⟨Decidable.not_not.1 h1, Decidable.not_not.1 h2, by omega, h.1, h.2⟩
theorem eR_.ok {w : Wk} {p : List Pc} {bu : Int} {x : Wk} {new : List Fc} {e : Int} (h : eR_ w p bu x new e) : x.ok ∧ x.ps.length ≤ w.ps.length + p.length ∧ x.cl.atoms.length ≤ 3 * (w.ps.length + p.length) + 2 ∧ x.cl.facts.length ≤ 65536 ∧ new.length ≤ 65536 := by
  have no : Wk.no.ok ∧ Wk.no.ps.length ≤ w.ps.length + p.length ∧ Wk.no.cl.atoms.length ≤ 3 * (w.ps.length + p.length) + 2 ∧ Wk.no.cl.facts.length ≤ 65536 ∧ ([] : List Fc).length ≤ 65536 := ⟨Wk.no_ok, by simp [Wk.no], by simp [Wk.no, Cl.no], by simp [Wk.no, Cl.no], by simp⟩
  unfold eR_ at h
  split at h
  · obtain ⟨rfl, rfl, _⟩ := h; exact no
  · split at h
    · obtain ⟨rfl, rfl, _⟩ := h; exact no
    · split at h
      · obtain ⟨rfl, rfl, _⟩ := h; exact no
      · obtain ⟨q1, q2, q3⟩ := h.1.len
        rw [List.length_append] at q1 q2
        refine ⟨h.1.ok, q1, q2, q3, ?_⟩
        rw [h.2]
        split
        · have := gu_ x.cl.facts w.cl.facts; omega
        · simp
def pr_ (n : Nat) (l : List Int) : Prop := (∀ x ∈ l, 0 ≤ x ∧ x < n) ∧ l.Pairwise (· < ·)
instance (n : Nat) (l : List Int) : Decidable (pr_ n l) := by unfold pr_; exact inferInstance
def dI_ (l : List Int) : Nat → List Pc → List Pc
  | _, [] => []
  | i, x :: r => if (i : Int) ∈ l then dI_ l (i + 1) r else x :: dI_ l (i + 1) r
theorem ht_ (l : List Int) : ∀ (i : Nat) (r s : List Pc), dI_ l i (r ++ s) = dI_ l i r ++ dI_ l (i + r.length) s
  | i, [], s => by simp [dI_]
  | i, x :: r, s => by
    rw [List.cons_append, dI_, ht_ l (i + 1) r s, dI_, List.length_cons, show i + 1 + r.length = i + (r.length + 1) by omega]
    split <;> simp
theorem iX_ {l : List Int} {p : List Pc} {i : Nat} {x : Pc} (h : p[i]? = some x) : dI_ l 0 (p.take (i + 1)) = dI_ l 0 (p.take i) ++ (if (i : Int) ∈ l then [] else [x]) := by
  have hi := (List.getElem?_eq_some_iff.1 h).1
  rw [List.take_add_one, h, Option.toList_some, ht_, List.length_take, Nat.min_eq_left (by omega), Nat.zero_add]
  simp only [dI_]
theorem hS_ (l : List Int) : ∀ (i : Nat) (p : List Pc), ∀ x ∈ dI_ l i p, x ∈ p
  | _, [], x, h => by simp [dI_] at h
  | i, y :: r, x, h => by
    simp only [dI_] at h
    split at h
    · exact List.mem_cons_of_mem _ (hS_ l (i + 1) r x h)
    · rcases List.mem_cons.1 h with rfl | h
      · exact List.mem_cons_self
      · exact List.mem_cons_of_mem _ (hS_ l (i + 1) r x h)
theorem gH_ (l : List Int) : ∀ (i : Nat) (p : List Pc), (dI_ l i p).length ≤ p.length
  | _, [] => by simp [dI_]
  | i, y :: r => by
    have := gH_ l (i + 1) r
    simp only [dI_]
    split <;> simp only [List.length_cons] <;> omega
def ge_ (w : Wk) (l : List Int) (bu : Int) (x : Wk) (gone : List Fc) (e : Int) : Prop :=
  if ¬ (pr_ w.ps.length l ∧ 0 ≤ bu ∧ bu ≤ 1073741824) then x = Wk.no ∧ gone = [] ∧ e = 1
  else dh_ (dI_ l 0 w.ps) bu x e ∧ gone = if e = 0 then bP_ w.cl.facts x.cl.facts else []
theorem ge_.good {w : Wk} {l : List Int} {bu : Int} {x : Wk} {g : List Fc} (h : ge_ w l bu x g 0) : pr_ w.ps.length l ∧ (0 ≤ bu ∧ bu ≤ 1073741824) ∧ dh_ (dI_ l 0 w.ps) bu x 0 ∧ g = bP_ w.cl.facts x.cl.facts := by
  unfold ge_ at h
  split at h
  · exact absurd h.2.2 (by decide)
  · rename_i h1
    have h1 := Decidable.not_not.1 h1
    exact ⟨h1.1, h1.2, h.1, h.2⟩
theorem ge_.ok {w : Wk} {l : List Int} {bu : Int} {x : Wk} {g : List Fc} {e : Int} (h : ge_ w l bu x g e) : x.ok ∧ x.ps.length ≤ w.ps.length ∧ x.cl.atoms.length ≤ 3 * w.ps.length + 2 ∧ x.cl.facts.length ≤ 65536 ∧ g.length ≤ w.cl.facts.length := by
  unfold ge_ at h
  split at h
  · obtain ⟨rfl, rfl, _⟩ := h; exact ⟨Wk.no_ok, by simp [Wk.no], by simp [Wk.no, Cl.no], by simp [Wk.no, Cl.no], by simp⟩
  · obtain ⟨q1, q2, q3⟩ := h.1.len
    have := gH_ l 0 w.ps
    refine ⟨h.1.ok, by omega, by omega, q3, ?_⟩
    rw [h.2]
    split
    · exact gu_ _ _
    · simp
theorem ld_ {p : List Pc} {bu : Int} {w : Wk} {e : Int} (h : dh_ p bu w e) (he : e ≠ 0) : dh_ p bu Wk.no e := by
  obtain ⟨c, h1, _, _⟩ := h
  exact ⟨c, h1, fun q => absurd q he, fun _ => rfl⟩
set_option maxHeartbeats 1000000 in
theorem gP_ (w : Wk) (p : List Pc) (pad : Option Addr) (pcap : Nat) (bu : Int) (hsw : ∀ x ∈ w.ps, x.sm) (hw1 : w.ps.length ≤ w.pcap) (hw2 : w.pad = none → w.pcap = 0) (hw3 : w.ps.length ≤ 16384) (hw4 : w.cl.facts.length ≤ 100000000) (hsm : ∀ x ∈ p, x.sm) (hp1 : p.length ≤ pcap) (hp2 : pad = none → pcap = 0) (hp3 : p.length ≤ 100000) : Tri Tryz.prog 39 #[Wk.val w, .slice pad (List.length p) pcap, .int .i64 bu] [] [aw_ (Wk.pad w) (List.flatMap Pc.cells (Wk.ps w)), aw_ (Cl.aad (Wk.cl w)) (List.flatMap aM_ (Cl.atoms (Wk.cl w))), aw_ (Cl.fad (Wk.cl w)) (List.flatMap Fc.cells (Cl.facts (Wk.cl w))), aw_ pad (List.flatMap Pc.cells p), gi_] (fun y : {y : Wk × List Fc × Option Addr × Nat × Int // eR_ w p bu y.1 y.2.1 y.2.2.2.2 ∧ (y.2.1.length ≤ y.2.2.2.1 ∧ y.2.2.2.1 ≤ maxLen ∧ (y.2.2.1 = none → y.2.2.2.1 = 0))} => .tuple #[y.1.1.val, .slice y.1.2.2.1 y.1.2.1.length y.1.2.2.2.1, .int .i64 y.1.2.2.2.2]) (fun _ => []) (fun y => y.1.1.row ++ [aw_ y.1.2.2.1 (y.1.2.1.flatMap Fc.cells)]) := by
 refine T_ Tryz.func39 rfl rfl Tryz.ntmps39 rfl fun v0 => ?_
 refine h_ (c_ (bs_ rfl rfl fun b1 => ?_))
 refine ao_ by_ rfl fun b2 => ?_
 refine a_ (g_ rfl) rfl (a_ (g_ rfl) rfl (e_ (b_ rfl (h_ (h_ (c_ (a_ (f_ rfl) rfl (W_ (kG_ p pad pcap (by omega) hsm) rfl I_ (fun v _ h => by exact ⟨h.2.2.2.1, h.2.2.2.2.1, trivial⟩) rfl fun _ => ?_))))))))
 refine a_ (g_ rfl) rfl (e_ (b_ rfl (h_ (c_ (a_ (f_ rfl) rfl (x_ (bL_ rfl rfl) rfl fun r1 hr1 => ?_))))))
 refine e_ (b_ rfl ?_)
 cases r1
 ·
  replace hr1 := aX_ hr1
  have hchk := hr1
  refine v_ rfl (z_ (b_ rfl (h_ (h_ (c_ (a_ (f_ rfl) rfl (au_ (jF_ bu) rfl I_ (fun _ _ _ => by exact trivial) rfl fun r2 hr2 => ?_)))))))
  refine a_ (cb_ rfl) rfl (e_ (b_ rfl ?_))
  cases r2
  ·
   replace hr2 := of_decide_eq_false hr2
   refine t_ rfl (h_ (c_ (a_ (ax_ eM_ rfl rfl) rfl (S_ 0 ag_ rfl rfl rfl rfl rfl rfl (a_ (g_ rfl) rfl (a_ (g_ rfl) rfl (e_ (b_ rfl (E_ ?_)))))))))
   exact du_ ⟨((Wk.mk [] none 0 (Cl.mk [] none 0 [] none 0)), ([] : List Fc), none, 0, 1), by unfold eR_; rw [if_neg (fun q => q hchk), if_pos (by assumption)]; exact ⟨rfl, rfl, rfl⟩, ⟨Nat.le_refl _, by simp, fun _ => rfl⟩⟩ (fun aa v h1 h2 => dO_ (us := Wk.cells (Wk.mk [] none 0 (Cl.mk [] none 0 [] none 0))) 0 gk_ bf_ ag_ rfl rfl rfl rfl rfl aa v h1 h2) I_ (fun v _ h => by exact ⟨.inl rfl, .inl rfl, .inl rfl, .inl rfl, trivial⟩)
  ·
   replace hr2 := of_decide_eq_true hr2
   have hbu := hr2
   refine v_ rfl (z_ (b_ rfl (h_ (h_ (c_ (a_ (m_ aS_ rfl rfl rfl ca_) rfl (a_ (u_ 1 da_ rfl rfl rfl) rfl (a_ (an_ G_ rfl) rfl (a_ (f_ rfl) rfl ?_)))))))))
   refine a_ (an_ G_ rfl) rfl (a_ (P_ rfl rfl rfl (ah_ (by omega) (by omega))) rfl (x_ (cd_ rfl rfl) rfl fun r3 hr3 => ?_))
   refine e_ (b_ rfl ?_)
   cases r3
   ·
    replace hr3 := of_decide_eq_false hr3
    refine v_ rfl (z_ (b_ rfl (h_ (c_ (a_ (m_ aS_ rfl rfl rfl ca_) rfl (a_ (u_ 1 da_ rfl rfl rfl) rfl (a_ (f_ rfl) rfl (aK_ dl_ ca_ co_ rfl rfl rfl rfl rfl rfl fun b3 => ?_))))))))
    refine bx_ (List.flatMap PL.cells [(PL.mk (Wk.ps w) (Wk.pad w) (Wk.pcap w)), (PL.mk p pad pcap)]) i_ rfl ?_
    refine W_ (ph_ [(PL.mk (Wk.ps w) (Wk.pad w) (Wk.pcap w)), (PL.mk p pad pcap)] (some ⟨b3, 0, none⟩) 2 (fun y hy => by simp only [List.mem_cons, List.not_mem_nil, or_false] at hy; rcases hy with rfl | rfl; exact ⟨hw1, hw2, by dsimp only; omega⟩; exact ⟨hp1, hp2, by dsimp only; omega⟩) (by simp)) rfl I_ (fun v _ h => by refine ⟨h.1, fun y hy => ?_, trivial⟩; simp only [List.mem_cons, List.not_mem_nil, or_false] at hy; rcases hy with rfl | rfl; exact h.2.1; exact h.2.2.2.2.1) rfl fun ⟨⟨ccad, cccap⟩, hcc1, hcc2, hcc3⟩ => ?_
    dsimp only
    dsimp only at hcc1 hcc2 hcc3
    have eC : (dL_ [(PL.mk (Wk.ps w) (Wk.pad w) (Wk.pcap w)), (PL.mk p pad pcap)]) = w.ps ++ p := by simp [dL_]
    have hCl : List.length (dL_ [(PL.mk (Wk.ps w) (Wk.pad w) (Wk.pcap w)), (PL.mk p pad pcap)]) = w.ps.length + p.length := by rw [eC, List.length_append]
    refine a_ (f_ rfl) rfl (W_ (hm_ (dL_ [(PL.mk (Wk.ps w) (Wk.pad w) (Wk.pcap w)), (PL.mk p pad pcap)]) ccad cccap bu (fun y hy => by rw [eC] at hy; rcases List.mem_append.1 hy with h | h; exact hsw y h; exact hsm y h) (by omega) (by omega)) rfl I_ (fun v _ h => by exact ⟨h.1, h.2.2.2.2.2.2.1, trivial⟩) rfl fun ⟨⟨x1, e1⟩, hS1⟩ => ?_)
    dsimp only
    dsimp only at hS1
    have hlx1 := hS1.len
    refine a_ (f_ rfl) rfl (a_ (Y_ rfl rfl) rfl (a_ (Y_ rfl rfl) rfl (S_ 0 ag_ rfl rfl rfl rfl rfl rfl (a_ (g_ rfl) rfl (e_ (b_ rfl (h_ (h_ (c_ ?_)))))))))
    refine a_ (f_ rfl) rfl (x_ (bL_ rfl rfl) rfl fun r4 hr4 => ?_)
    refine e_ (b_ rfl ?_)
    cases r4
    ·
     replace hr4 := aX_ hr4
     have he1 : e1 = 0 := hr4
     refine v_ rfl (z_ (b_ rfl (h_ (c_ (a_ (m_ aS_ rfl rfl rfl ac_) rfl (a_ (X_ 1 aV_ ac_ rfl rfl rfl) rfl (W_ (jo_ (Wk.cl w) (by omega)) rfl I_ (fun v _ h => by exact ⟨h.2.2.2.2.2.2.2.1, trivial⟩) rfl fun ⟨⟨mb, es, ce, q⟩, hE, hq⟩ => ?_)))))))
     dsimp only
     dsimp only at hE hq
     refine a_ (g_ rfl) rfl (e_ (b_ rfl (h_ ?_)))
     refine aR_ ((b1, .cells #[.slice (Wk.pad w) (List.length (Wk.ps w)) (Wk.pcap w), .slice (Cl.aad (Wk.cl w)) (List.length (Cl.atoms (Wk.cl w))) (Cl.acap (Wk.cl w)), .slice (Cl.fad (Wk.cl w)) (List.length (Cl.facts (Wk.cl w))) (Cl.fcap (Wk.cl w))] 50 (0, 0)) :: []) (by kernel_rfl) ?_
     refine ae_ 6 [1, 2, 4, 5] (by kernel_rfl) (fun _ a b => ⟨a.tail.tail, b⟩) (n_ rfl (m_ aS_ rfl rfl rfl ac_) rfl (n_ rfl (m_ aJ_ rfl rfl rfl bB_) rfl (n_ rfl (f_ rfl) rfl (n_ rfl (cM_ rfl rfl) rfl (ad_ ?_)))))
     refine ei_ 0 3 rfl rfl (by kernel_rfl) ?_ ?_
     ·
      refine a_ (X_ 1 bf_ ag_ rfl rfl rfl) rfl (e_ (w_ rfl (K_ (fun _ a b => ⟨a.tail.tail, b⟩) (U_ 3 rfl (by kernel_rfl) (a_ (u_ 1 bI_ rfl rfl rfl) rfl (e_ (w_ rfl (K_ (fun _ a b => ⟨a.tail.tail, b⟩) (U_ 6 rfl (by kernel_rfl) ?_)))))))))
      refine W_ (gt_ (Cl.facts (Wk.cl x1)) (Cl.fad (Wk.cl x1)) (Cl.fcap (Wk.cl x1)) mb es ce q hE (by omega)) rfl i_ (fun v _ h => by exact ⟨h.2.2.1, trivial⟩) rfl fun ⟨⟨nad, ncap⟩, hn1, hn2, hn3⟩ => ?_
      dsimp only
      dsimp only at hn1 hn2 hn3
      refine e_ (w_ rfl (K_ (fun _ a b => ⟨a.tail.tail, b.2⟩) (U_ 7 rfl (by kernel_rfl) (S_ 1 ag_ rfl rfl rfl rfl rfl rfl (e_ (w_ rfl (K_ (fun _ a b => ⟨a.tail.tail, b.2⟩) (ae_ 0 [8, 9] (by kernel_rfl) (fun _ a b => ⟨a.tail.tail, b.2⟩) (n_ rfl (g_ rfl) rfl ?_)))))))))
      refine n_ rfl (g_ rfl) rfl (ad_ (aa_ (by kernel_rfl) (b_ rfl (E_ ?_))))
      exact du_ ⟨(x1, (bP_ (Cl.facts (Wk.cl x1)) q), nad, ncap, 0), by unfold eR_; rw [if_neg (fun q => q hchk), if_neg (fun q => q hbu), if_neg (by omega)]; rw [if_pos rfl]; exact ⟨eC ▸ he1 ▸ hS1, ed_ hq⟩, ⟨hn1, hn2, hn3⟩⟩ (fun aa v h1 h2 => dO_ (us := Wk.cells x1) 1 gk_ bf_ ag_ rfl rfl rfl rfl rfl aa v h1 h2) I_ (fun v _ h => by exact ⟨h.2.1, h.2.2.1, h.2.2.2.1, h.1, trivial⟩)
     ·
      refine a_ (u_ 1 bI_ rfl rfl rfl) rfl (e_ (w_ rfl (K_ (fun _ a b => ⟨a.tail.tail, b⟩) ?_)))
      refine ei_ 0 6 rfl rfl (by kernel_rfl) ?_ ?_
      ·
       refine a_ (X_ 1 bf_ ag_ rfl rfl rfl) rfl (e_ (w_ rfl (K_ (fun _ a b => ⟨a.tail.tail, b⟩) (U_ 6 rfl (by kernel_rfl) (W_ (gt_ (Cl.facts (Wk.cl x1)) (Cl.fad (Wk.cl x1)) (Cl.fcap (Wk.cl x1)) mb es ce q hE (by omega)) rfl i_ (fun v _ h => by exact ⟨h.2.2.1, trivial⟩) rfl fun ⟨⟨nad, ncap⟩, hn1, hn2, hn3⟩ => ?_)))))
       dsimp only
       dsimp only at hn1 hn2 hn3
       refine e_ (w_ rfl (K_ (fun _ a b => ⟨a.tail.tail, b.2⟩) (U_ 7 rfl (by kernel_rfl) (S_ 1 ag_ rfl rfl rfl rfl rfl rfl (e_ (w_ rfl (K_ (fun _ a b => ⟨a.tail.tail, b.2⟩) (ae_ 0 [8, 9] (by kernel_rfl) (fun _ a b => ⟨a.tail.tail, b.2⟩) (n_ rfl (g_ rfl) rfl ?_)))))))))
       refine n_ rfl (g_ rfl) rfl (ad_ (aa_ (by kernel_rfl) (b_ rfl (E_ ?_))))
       exact du_ ⟨(x1, (bP_ (Cl.facts (Wk.cl x1)) q), nad, ncap, 0), by unfold eR_; rw [if_neg (fun q => q hchk), if_neg (fun q => q hbu), if_neg (by omega)]; rw [if_pos rfl]; exact ⟨eC ▸ he1 ▸ hS1, ed_ hq⟩, ⟨hn1, hn2, hn3⟩⟩ (fun aa v h1 h2 => dO_ (us := Wk.cells x1) 1 gk_ bf_ ag_ rfl rfl rfl rfl rfl aa v h1 h2) I_ (fun v _ h => by exact ⟨h.2.1, h.2.2.1, h.2.2.2.1, h.1, trivial⟩)
      ·
       refine W_ (gt_ (Cl.facts (Wk.cl x1)) (Cl.fad (Wk.cl x1)) (Cl.fcap (Wk.cl x1)) mb es ce q hE (by omega)) rfl i_ (fun v _ h => by exact ⟨h.2.2.1, trivial⟩) rfl fun ⟨⟨nad, ncap⟩, hn1, hn2, hn3⟩ => ?_
       dsimp only
       dsimp only at hn1 hn2 hn3
       refine e_ (w_ rfl (K_ (fun _ a b => ⟨a.tail.tail, b.2⟩) (U_ 0 rfl (by kernel_rfl) (a_ (X_ 1 bf_ ag_ rfl rfl rfl) rfl (e_ (w_ rfl (K_ (fun _ a b => ⟨a.tail.tail, b.2⟩) (U_ 7 rfl (by kernel_rfl) (S_ 1 ag_ rfl rfl rfl rfl rfl rfl ?_)))))))))
       refine e_ (w_ rfl (K_ (fun _ a b => ⟨a.tail.tail, b.2⟩) (ae_ 0 [8, 9] (by kernel_rfl) (fun _ a b => ⟨a.tail.tail, b.2⟩) (n_ rfl (g_ rfl) rfl (n_ rfl (g_ rfl) rfl (ad_ (aa_ (by kernel_rfl) (b_ rfl (E_ ?_)))))))))
       exact du_ ⟨(x1, (bP_ (Cl.facts (Wk.cl x1)) q), nad, ncap, 0), by unfold eR_; rw [if_neg (fun q => q hchk), if_neg (fun q => q hbu), if_neg (by omega)]; rw [if_pos rfl]; exact ⟨eC ▸ he1 ▸ hS1, ed_ hq⟩, ⟨hn1, hn2, hn3⟩⟩ (fun aa v h1 h2 => dO_ (us := Wk.cells x1) 1 gk_ bf_ ag_ rfl rfl rfl rfl rfl aa v h1 h2) I_ (fun v _ h => by exact ⟨h.2.1, h.2.2.1, h.2.2.2.1, h.1, trivial⟩)
    ·
     replace hr4 := aW_ hr4
     refine t_ rfl (h_ (c_ (a_ (ax_ eM_ rfl rfl) rfl (a_ (f_ rfl) rfl (S_ 0 ag_ rfl rfl rfl rfl rfl rfl (a_ (g_ rfl) rfl (a_ (g_ rfl) rfl (e_ (b_ rfl ?_)))))))))
     refine E_ ?_
     exact du_ ⟨((Wk.mk [] none 0 (Cl.mk [] none 0 [] none 0)), ([] : List Fc), none, 0, e1), by unfold eR_; rw [if_neg (fun q => q hchk), if_neg (fun q => q hbu), if_neg (by omega)]; rw [if_neg (by assumption)]; exact ⟨(ld_ (eC ▸ hS1) (by assumption)), rfl⟩, ⟨Nat.le_refl _, by simp, fun _ => rfl⟩⟩ (fun aa v h1 h2 => dO_ (us := Wk.cells (Wk.mk [] none 0 (Cl.mk [] none 0 [] none 0))) 0 gk_ bf_ ag_ rfl rfl rfl rfl rfl aa v h1 h2) I_ (fun v _ h => by exact ⟨.inl rfl, .inl rfl, .inl rfl, .inl rfl, trivial⟩)
   ·
    replace hr3 := of_decide_eq_true hr3
    refine t_ rfl (h_ (c_ (a_ (ax_ eM_ rfl rfl) rfl (S_ 0 ag_ rfl rfl rfl rfl rfl rfl (a_ (g_ rfl) rfl (a_ (g_ rfl) rfl (e_ (b_ rfl (E_ ?_)))))))))
    exact du_ ⟨((Wk.mk [] none 0 (Cl.mk [] none 0 [] none 0)), ([] : List Fc), none, 0, 2), by unfold eR_; rw [if_neg (fun q => q hchk), if_neg (fun q => q hbu), if_pos (by omega)]; exact ⟨rfl, rfl, rfl⟩, ⟨Nat.le_refl _, by simp, fun _ => rfl⟩⟩ (fun aa v h1 h2 => dO_ (us := Wk.cells (Wk.mk [] none 0 (Cl.mk [] none 0 [] none 0))) 0 gk_ bf_ ag_ rfl rfl rfl rfl rfl aa v h1 h2) I_ (fun v _ h => by exact ⟨.inl rfl, .inl rfl, .inl rfl, .inl rfl, trivial⟩)
 ·
  replace hr1 := aW_ hr1
  refine t_ rfl (h_ (c_ (a_ (ax_ eM_ rfl rfl) rfl (a_ (f_ rfl) rfl (S_ 0 ag_ rfl rfl rfl rfl rfl rfl (a_ (g_ rfl) rfl (a_ (g_ rfl) rfl (e_ (b_ rfl ?_)))))))))
  refine E_ ?_
  exact du_ ⟨((Wk.mk [] none 0 (Cl.mk [] none 0 [] none 0)), ([] : List Fc), none, 0, (bC_ p)), by unfold eR_; rw [if_pos (by assumption)]; exact ⟨rfl, rfl, rfl⟩, ⟨Nat.le_refl _, by simp, fun _ => rfl⟩⟩ (fun aa v h1 h2 => dO_ (us := Wk.cells (Wk.mk [] none 0 (Cl.mk [] none 0 [] none 0))) 0 gk_ bf_ ag_ rfl rfl rfl rfl rfl aa v h1 h2) I_ (fun v _ h => by exact ⟨.inl rfl, .inl rfl, .inl rfl, .inl rfl, trivial⟩)
end Go.Proofs.YtpdbbglpbngeiaaGreatDoor
namespace Go.Proofs.YtpdbbglpbngeiaaGreatDoor
open Go Go.Sx Go.Proofs
attribute [local irreducible] Code.wp wpList wpAnyH
open Go.Vs
set_option maxHeartbeats 1000000 in
theorem lp_ (w : Wk) (wh : List Int) (had : Option Addr) (hcap : Nat) (bu : Int) (hsw : ∀ x ∈ w.ps, x.sm) (hw1 : w.ps.length ≤ w.pcap) (hw2 : w.pad = none → w.pcap = 0) (hw3 : w.ps.length ≤ 16384) (hw4 : w.cl.facts.length ≤ 100000000) (hwl : wh.length ≤ 100000000) : Tri Tryz.prog 41 #[Wk.val w, .slice had (List.length wh) hcap, .int .i64 bu] [] [aw_ (Wk.pad w) (List.flatMap Pc.cells (Wk.ps w)), aw_ (Cl.aad (Wk.cl w)) (List.flatMap aM_ (Cl.atoms (Wk.cl w))), aw_ (Cl.fad (Wk.cl w)) (List.flatMap Fc.cells (Cl.facts (Wk.cl w))), aw_ had (List.flatMap kw_ wh), gi_] (fun y : {y : Wk × List Fc × Option Addr × Nat × Int // ge_ w wh bu y.1 y.2.1 y.2.2.2.2 ∧ (y.2.1.length ≤ y.2.2.2.1 ∧ y.2.2.2.1 ≤ maxLen ∧ (y.2.2.1 = none → y.2.2.2.1 = 0))} => .tuple #[y.1.1.val, .slice y.1.2.2.1 y.1.2.1.length y.1.2.2.2.1, .int .i64 y.1.2.2.2.2]) (fun _ => []) (fun y => y.1.1.row ++ [aw_ y.1.2.2.1 (y.1.2.1.flatMap Fc.cells)]) := by
 refine T_ Tryz.func41 rfl rfl Tryz.ntmps41 rfl fun v0 => ?_
 refine h_ (c_ (bs_ rfl rfl fun b1 => ?_))
 refine ao_ by_ rfl fun b2 => ?_
 refine a_ (g_ rfl) rfl (a_ (g_ rfl) rfl (e_ (b_ rfl (h_ (c_ (dC_ rfl fun b3 => ?_))))))
 refine a_ (g_ rfl) rfl (e_ (b_ rfl (h_ (h_ (c_ (a_ (f_ rfl) rfl (a_ (an_ dz_ rfl) rfl (a_ (f_ rfl) rfl (e_ ?_)))))))))
 refine b_ rfl (R_ ?_)
 refine aI_ (ι := {y : Nat × Array MapEntry × Nat × List Int // y.1 ≤ List.length wh ∧ SetE (fun n : Int => Value.int .i64 n) y.2.1 y.2.2.2 ∧ (∀ f, f ∈ y.2.2.2 ↔ f ∈ List.take y.1 wh) ∧ (∀ x ∈ List.take y.1 wh, 0 ≤ x ∧ x < List.length (Wk.ps w)) ∧ (List.take y.1 wh).Pairwise (fun x y : Int => x < y)}) (fun y => [(2, .int .i64 bu), (3, zp_ b1 0), (6, zp_ b2 0), (7, .slice none 0 0), (9, .map (some b3)), (1, .slice had (List.length wh) hcap), (17, .slice had (List.length wh) hcap), (18, .int .i64 (List.length wh : Int)), (19, .int .i64 (y.1.1 : Int))]) (fun y => ((b3, .map y.1.2.1 y.1.2.2.1) :: ((b2, .cells #[.slice none 0 0, .slice none 0 0, .slice none 0 0] 50 (0, 0)) :: ((b1, .cells #[.slice (Wk.pad w) (List.length (Wk.ps w)) (Wk.pcap w), .slice (Cl.aad (Wk.cl w)) (List.length (Cl.atoms (Wk.cl w))) (Cl.acap (Wk.cl w)), .slice (Cl.fad (Wk.cl w)) (List.length (Cl.facts (Wk.cl w))) (Cl.fcap (Wk.cl w))] 50 (0, 0)) :: [])))) (fun y => [aw_ (Wk.pad w) (List.flatMap Pc.cells (Wk.ps w)), aw_ (Cl.aad (Wk.cl w)) (List.flatMap aM_ (Cl.atoms (Wk.cl w))), aw_ (Cl.fad (Wk.cl w)) (List.flatMap Fc.cells (Cl.facts (Wk.cl w))), aw_ had (List.flatMap kw_ wh), gi_]) (fun y => List.length wh - y.1.1) ⟨((0 : Nat), #[], 0, ([] : List Int)), by simp, SetE.nil, by simp, by simp, List.Pairwise.nil⟩ ⟨rfl, rfl, rfl, rfl, rfl, rfl, rfl, rfl, rfl, trivial⟩ (k_ i_ (k_ i_ i_)) (fun _ _ h => h) ?_
 rintro ⟨⟨i, es, ce, q⟩, hi, hE, hq, hb, hpw⟩
 dsimp only at hi hE hq hb hpw ⊢
 refine h_ (c_ (x_ (ay_ rfl rfl) rfl fun r1 hr1 => ?_))
 refine e_ (b_ rfl (h_ ?_))
 cases r1
 ·
  replace hr1 := of_decide_eq_false hr1
  rw [List.take_of_length_le (by omega)] at hq hb hpw
  have hokx : pr_ (Wk.ps w).length wh := ⟨hb, hpw⟩
  refine v_ rfl (at_ rfl (b_ rfl (h_ (h_ (c_ (a_ (f_ rfl) rfl (au_ (jF_ bu) rfl I_ (fun _ _ _ => by exact trivial) rfl fun r2 hr2 => ?_)))))))
  refine a_ (cb_ rfl) rfl (e_ (b_ rfl ?_))
  cases r2
  ·
   replace hr2 := of_decide_eq_false hr2
   refine t_ rfl (h_ (c_ (a_ (ax_ eM_ rfl rfl) rfl (S_ 1 ag_ rfl rfl rfl rfl rfl rfl (a_ (g_ rfl) rfl (a_ (g_ rfl) rfl (e_ (b_ rfl (E_ ?_)))))))))
   exact du_ ⟨((Wk.mk [] none 0 (Cl.mk [] none 0 [] none 0)), ([] : List Fc), none, 0, 1), by unfold ge_; rw [if_pos (fun z => absurd z.2 (by assumption))]; exact ⟨rfl, rfl, rfl⟩, ⟨Nat.le_refl _, by simp, fun _ => rfl⟩⟩ (fun aa v h1 h2 => dO_ (us := Wk.cells (Wk.mk [] none 0 (Cl.mk [] none 0 [] none 0))) 1 gj_ bf_ ag_ rfl rfl rfl rfl rfl aa v h1 h2) I_ (fun v _ h => by exact ⟨.inl rfl, .inl rfl, .inl rfl, .inl rfl, trivial⟩)
  ·
   replace hr2 := of_decide_eq_true hr2
   have hbu := hr2
   refine v_ rfl (z_ (b_ rfl (h_ (c_ (a_ (g_ rfl) rfl (e_ (b_ rfl (h_ (h_ ?_)))))))))
   refine c_ (a_ (m_ aS_ rfl rfl rfl ca_) rfl (a_ (u_ 2 da_ rfl rfl rfl) rfl (a_ (an_ G_ rfl) rfl (a_ (f_ rfl) rfl (e_ (b_ rfl (R_ ?_)))))))
   refine aI_ (ι := {y : Nat × Value × Hp // y.1 ≤ List.length (Wk.ps w) ∧ aO_ 47 10 y.2.1 (List.length (dI_ wh 0 (List.take y.1 (Wk.ps w)))) (List.flatMap Pc.cells (dI_ wh 0 (List.take y.1 (Wk.ps w)))) y.2.2}) (fun y => [(2, .int .i64 bu), (3, zp_ b1 0), (6, zp_ b2 0), (7, .slice none 0 0), (9, .map (some b3)), (12, y.1.2.1), (55, .slice (Wk.pad w) (List.length (Wk.ps w)) (Wk.pcap w)), (56, .int .i64 (List.length (Wk.ps w) : Int)), (57, .int .i64 (y.1.1 : Int))]) (fun y => ((b3, .map es ce) :: ((b2, .cells #[.slice none 0 0, .slice none 0 0, .slice none 0 0] 50 (0, 0)) :: ((b1, .cells #[.slice (Wk.pad w) (List.length (Wk.ps w)) (Wk.pcap w), .slice (Cl.aad (Wk.cl w)) (List.length (Cl.atoms (Wk.cl w))) (Cl.acap (Wk.cl w)), .slice (Cl.fad (Wk.cl w)) (List.length (Cl.facts (Wk.cl w))) (Cl.fcap (Wk.cl w))] 50 (0, 0)) :: y.1.2.2)))) (fun y => [aw_ (Wk.pad w) (List.flatMap Pc.cells (Wk.ps w)), aw_ (Cl.aad (Wk.cl w)) (List.flatMap aM_ (Cl.atoms (Wk.cl w))), aw_ (Cl.fad (Wk.cl w)) (List.flatMap Fc.cells (Cl.facts (Wk.cl w))), aw_ had (List.flatMap kw_ wh), gi_]) (fun y => List.length (Wk.ps w) - y.1.1) ⟨((0 : Nat), (.slice none 0 0), []), by simp, (aO_.nil _ _)⟩ ⟨rfl, rfl, rfl, rfl, rfl, rfl, rfl, rfl, rfl, trivial⟩ (k_ i_ (k_ i_ i_)) (fun _ _ h => h) ?_
   rintro ⟨⟨k, sv_Rpc, H_Rpc⟩, hk, hr_Rpc⟩
   dsimp only at hk hr_Rpc ⊢
   have hkl := gH_ wh 0 (List.take k (Wk.ps w))
   rw [List.length_take] at hkl
   refine h_ (c_ (x_ (ay_ rfl rfl) rfl fun r3 hr3 => ?_))
   refine e_ (b_ rfl (h_ ?_))
   cases r3
   ·
    replace hr3 := of_decide_eq_false hr3
    rw [List.take_of_length_le (by omega)] at hr_Rpc
    have hkl2 := gH_ wh 0 (Wk.ps w)
    refine v_ rfl (at_ rfl (b_ rfl (h_ (c_ (a_ (f_ rfl) rfl (a_ (f_ rfl) rfl (bi_ hr_Rpc (d_ (d_ Q_)) fun rad rcap hrad hcrad hmrad hzrad => ?_)))))))
    subst hrad
    refine W_ (hm_ (dI_ wh 0 (Wk.ps w)) rad rcap bu (fun y hy => hsw y (hS_ _ _ _ y hy)) (by omega) (by omega)) rfl I_ (fun v _ h => by exact ⟨h.1, h.2.2.2.2.2.1, trivial⟩) rfl fun ⟨⟨x1w, e1⟩, hS1⟩ => ?_
    dsimp only
    dsimp only at hS1
    have hlx1w := hS1.len
    refine a_ (f_ rfl) rfl (a_ (Y_ rfl rfl) rfl (a_ (Y_ rfl rfl) rfl (S_ 1 ag_ rfl rfl rfl rfl rfl rfl (a_ (g_ rfl) rfl (e_ (b_ rfl (h_ (h_ (c_ ?_)))))))))
    refine a_ (f_ rfl) rfl (x_ (bL_ rfl rfl) rfl fun r4 hr4 => ?_)
    refine e_ (b_ rfl ?_)
    cases r4
    ·
     replace hr4 := aX_ hr4
     have he1 : e1 = 0 := hr4
     refine v_ rfl (z_ (b_ rfl (h_ (c_ (a_ (m_ aS_ rfl rfl rfl ac_) rfl (a_ (X_ 1 aV_ ac_ rfl rfl rfl) rfl (W_ (jo_ (Wk.cl x1w) (by omega)) rfl I_ (fun v _ h => by exact ⟨h.2.2.1, trivial⟩) rfl fun ⟨⟨mb9, es9, ce9, q9⟩, hE9, hq9⟩ => ?_)))))))
     dsimp only
     dsimp only at hE9 hq9
     refine a_ (g_ rfl) rfl (e_ (b_ rfl (h_ ?_)))
     refine aR_ ((b3, .map es ce) :: ((b1, .cells #[.slice (Wk.pad w) (List.length (Wk.ps w)) (Wk.pcap w), .slice (Cl.aad (Wk.cl w)) (List.length (Cl.atoms (Wk.cl w))) (Cl.acap (Wk.cl w)), .slice (Cl.fad (Wk.cl w)) (List.length (Cl.facts (Wk.cl w))) (Cl.fcap (Wk.cl w))] 50 (0, 0)) :: [])) (by kernel_rfl) ?_
     refine ae_ 5 [1, 2, 3, 4, 5] (by kernel_rfl) (fun _ a b => ⟨Vw.sat.sub (a.perm (k_ (d_ i_) (d_ (d_ i_)))), b⟩) (n_ rfl (m_ aS_ rfl rfl rfl ac_) rfl (n_ rfl (m_ aJ_ rfl rfl rfl bB_) rfl (n_ rfl (u_ 1 bI_ rfl rfl rfl) rfl (n_ rfl (f_ rfl) rfl (n_ rfl (cM_ rfl rfl) rfl (ad_ ?_))))))
     refine ei_ 0 6 rfl rfl (by kernel_rfl) ?_ ?_
     ·
      refine a_ (X_ 2 bf_ ag_ rfl rfl rfl) rfl (e_ (w_ rfl (K_ (fun _ a b => ⟨Vw.sat.sub (a.perm (k_ (d_ i_) (d_ (d_ i_)))), b⟩) (U_ 6 rfl (by kernel_rfl) (W_ (gt_ (Cl.facts (Wk.cl w)) (Cl.fad (Wk.cl w)) (Cl.fcap (Wk.cl w)) mb9 es9 ce9 q9 hE9 (by omega)) rfl i_ (fun v _ h => by exact ⟨h.2.2.2.2.2.2.1, trivial⟩) rfl fun ⟨⟨nad, ncap⟩, hn1, hn2, hn3⟩ => ?_)))))
      dsimp only
      dsimp only at hn1 hn2 hn3
      refine e_ (w_ rfl (K_ (fun _ a b => ⟨Vw.sat.sub (a.perm (k_ (d_ i_) (d_ (d_ i_)))), b.2⟩) (U_ 7 rfl (by kernel_rfl) (S_ 2 ag_ rfl rfl rfl rfl rfl rfl (e_ (w_ rfl (K_ (fun _ a b => ⟨Vw.sat.sub (a.perm (k_ (d_ i_) (d_ (d_ i_)))), b.2⟩) (ae_ 0 [8, 9] (by kernel_rfl) (fun _ a b => ⟨Vw.sat.sub (a.perm (k_ (d_ i_) (d_ (d_ i_)))), b.2⟩) (n_ rfl (g_ rfl) rfl ?_)))))))))
      refine n_ rfl (g_ rfl) rfl (ad_ (aa_ (by kernel_rfl) (b_ rfl (E_ ?_))))
      exact du_ ⟨(x1w, (bP_ (Cl.facts (Wk.cl w)) q9), nad, ncap, 0), by unfold ge_; rw [if_neg (fun z => z ⟨hokx, hbu⟩)]; rw [if_pos rfl]; exact ⟨he1 ▸ hS1, ed_ hq9⟩, ⟨hn1, hn2, hn3⟩⟩ (fun aa v h1 h2 => dO_ (us := Wk.cells x1w) 2 gj_ bf_ ag_ rfl rfl rfl rfl rfl aa v h1 h2) I_ (fun v _ h => by exact ⟨h.2.1, h.2.2.1, h.2.2.2.1, h.1, trivial⟩)
     ·
      refine W_ (gt_ (Cl.facts (Wk.cl w)) (Cl.fad (Wk.cl w)) (Cl.fcap (Wk.cl w)) mb9 es9 ce9 q9 hE9 (by omega)) rfl i_ (fun v _ h => by exact ⟨h.2.2.2.2.2.2.1, trivial⟩) rfl fun ⟨⟨nad, ncap⟩, hn1, hn2, hn3⟩ => ?_
      dsimp only
      dsimp only at hn1 hn2 hn3
      refine e_ (w_ rfl (K_ (fun _ a b => ⟨Vw.sat.sub (a.perm (k_ (d_ i_) (d_ (d_ i_)))), b.2⟩) (U_ 0 rfl (by kernel_rfl) (a_ (X_ 2 bf_ ag_ rfl rfl rfl) rfl (e_ (w_ rfl (K_ (fun _ a b => ⟨Vw.sat.sub (a.perm (k_ (d_ i_) (d_ (d_ i_)))), b.2⟩) (U_ 7 rfl (by kernel_rfl) (S_ 2 ag_ rfl rfl rfl rfl rfl rfl ?_)))))))))
      refine e_ (w_ rfl (K_ (fun _ a b => ⟨Vw.sat.sub (a.perm (k_ (d_ i_) (d_ (d_ i_)))), b.2⟩) (ae_ 0 [8, 9] (by kernel_rfl) (fun _ a b => ⟨Vw.sat.sub (a.perm (k_ (d_ i_) (d_ (d_ i_)))), b.2⟩) (n_ rfl (g_ rfl) rfl (n_ rfl (g_ rfl) rfl (ad_ (aa_ (by kernel_rfl) (b_ rfl (E_ ?_)))))))))
      exact du_ ⟨(x1w, (bP_ (Cl.facts (Wk.cl w)) q9), nad, ncap, 0), by unfold ge_; rw [if_neg (fun z => z ⟨hokx, hbu⟩)]; rw [if_pos rfl]; exact ⟨he1 ▸ hS1, ed_ hq9⟩, ⟨hn1, hn2, hn3⟩⟩ (fun aa v h1 h2 => dO_ (us := Wk.cells x1w) 2 gj_ bf_ ag_ rfl rfl rfl rfl rfl aa v h1 h2) I_ (fun v _ h => by exact ⟨h.2.1, h.2.2.1, h.2.2.2.1, h.1, trivial⟩)
    ·
     replace hr4 := aW_ hr4
     refine t_ rfl (h_ (c_ (a_ (ax_ eM_ rfl rfl) rfl (a_ (f_ rfl) rfl (S_ 1 ag_ rfl rfl rfl rfl rfl rfl (a_ (g_ rfl) rfl (a_ (g_ rfl) rfl (e_ (b_ rfl ?_)))))))))
     refine E_ ?_
     exact du_ ⟨((Wk.mk [] none 0 (Cl.mk [] none 0 [] none 0)), ([] : List Fc), none, 0, e1), by unfold ge_; rw [if_neg (fun z => z ⟨hokx, hbu⟩)]; rw [if_neg (by assumption)]; exact ⟨ld_ hS1 (by assumption), rfl⟩, ⟨Nat.le_refl _, by simp, fun _ => rfl⟩⟩ (fun aa v h1 h2 => dO_ (us := Wk.cells (Wk.mk [] none 0 (Cl.mk [] none 0 [] none 0))) 1 gj_ bf_ ag_ rfl rfl rfl rfl rfl aa v h1 h2) I_ (fun v _ h => by exact ⟨.inl rfl, .inl rfl, .inl rfl, .inl rfl, trivial⟩)
   ·
    replace hr3 := of_decide_eq_true hr3
    have hlx2 : k < List.length (Wk.ps w) := by omega
    obtain ⟨x2, hx2⟩ : ∃ e0, (Wk.ps w)[k]? = some e0 := ⟨_, List.getElem?_eq_getElem hlx2⟩
    have hmx2 : x2 ∈ (Wk.ps w) := List.mem_of_getElem? hx2
    refine t_ rfl (z_ (b_ rfl (h_ (R_ (h_ (c_ (a_ (f_ rfl) rfl (a_ (ab_ G_ M_ rfl rfl (fun v _ h => az_ (n := 10) Pc.cells_len (by decide) (by exact h.1) hx2) (by omega) (by first | omega | (simp; done))) rfl (a_ (aT_ (ad := (Wk.pad w)) (us := Pc.cells x2) aH_ M_ rfl (fun v _ h => by exact h.1) (Pc.cells_len _) (af_ Pc.cells_len hx2)) rfl ?_)))))))))
    refine ao_ bd_ rfl fun b4 => ?_
    refine a_ (g_ rfl) rfl (S_ 0 M_ rfl rfl rfl rfl rfl rfl (e_ (b_ rfl (h_ (c_ (a_ (f_ rfl) rfl (a_ (f_ rfl) rfl (x_ (ej_ (k := (k : Int)) keyI Tryz.runUnderlying127 dJ_ rfl rfl hE (fun v h _ => (h.own _ (List.mem_of_getElem? (i := 1) rfl)).1)) rfl fun r5 hr5 => ?_))))))))
    refine a_ (cb_ rfl) rfl (e_ (b_ rfl ?_))
    cases r5
    ·
     replace hr5 := dF hr5
     refine t_ rfl (c_ (a_ (f_ rfl) rfl (a_ (X_ 0 aH_ M_ rfl rfl rfl) rfl (aK_ G_ M_ bd_ rfl rfl rfl rfl rfl rfl fun b5 => ?_))))
     refine br_ (news := List.flatMap Pc.cells [x2]) eD_ hr_Rpc rfl rfl (d_ (d_ (d_ (d_ Q_)))) rfl (cH_ 0 rfl) (fun u hu => aG_ Pc.cells_one hu) (by simp only [maxLen]; ((try simp only [List.length_append, List.length_cons, List.length_nil]); omega)) (by ((try simp only [List.length_append, List.length_cons, List.length_nil]); omega)) rfl fun sv1 Hr1 hr1 => ?_
     refine ak_ List.perm_append_comm ?_
     have hq1 : aO_ 47 10 sv1 (List.length ((dI_ wh 0 (List.take k (Wk.ps w))) ++ [x2])) (List.flatMap Pc.cells ((dI_ wh 0 (List.take k (Wk.ps w))) ++ [x2])) Hr1 := by rw [List.length_append, List.flatMap_append]; exact hr1
     refine a_ (g_ rfl) rfl (e_ (b_ rfl (c_ (a_ (P_ rfl rfl rfl (ah_ (by omega) (by omega))) rfl (a_ (f_ rfl) rfl (e_ (w_ rfl ?_)))))))
     exact Z_ ⟨(k + 1, sv1, Hr1), hlx2, (by rw [iX_ hx2, if_neg (fun z => absurd ((hq _).2 z) (by assumption))]; exact hq1)⟩ (by dsimp only; omega) ⟨rfl, rfl, rfl, rfl, rfl, rfl, rfl, rfl, rfl, trivial⟩ (k_ (d_ (d_ i_)) (k_ (d_ (d_ i_)) (k_ (d_ (d_ i_)) (d_ Q_)))) (fun _ _ h => h)
    ·
     replace hr5 := dT hr5
     refine v_ rfl (z_ (b_ rfl (c_ (a_ (P_ rfl rfl rfl (ah_ (by omega) (by omega))) rfl (a_ (f_ rfl) rfl (e_ (w_ rfl ?_)))))))
     exact Z_ ⟨(k + 1, sv_Rpc, H_Rpc), hlx2, (by rw [iX_ hx2, if_pos ((hq _).1 (by assumption)), List.append_nil]; exact hr_Rpc)⟩ (by dsimp only; omega) ⟨rfl, rfl, rfl, rfl, rfl, rfl, rfl, rfl, rfl, trivial⟩ (k_ (d_ i_) (k_ (d_ i_) (k_ (d_ i_) Q_))) (fun _ _ h => h)
 ·
  replace hr1 := of_decide_eq_true hr1
  have hlx1 : i < List.length wh := by omega
  obtain ⟨x1, hx1⟩ : ∃ e0, wh[i]? = some e0 := ⟨_, List.getElem?_eq_getElem hlx1⟩
  have hmx1 : x1 ∈ wh := List.mem_of_getElem? hx1
  refine t_ rfl (z_ (b_ rfl (h_ (R_ (h_ (c_ (a_ (f_ rfl) rfl (a_ (ab_ dz_ L_ rfl rfl (fun v _ h => az_ (n := 1) fA_ (by decide) (by exact h.2.2.2.1) hx1) (by omega) (by first | omega | (simp; done))) rfl (a_ (aL_ (ad := had) O_ rfl (fun v _ h => by exact h.2.2.2.1) (af_ fA_ hx1 0 _ rfl)) rfl ?_)))))))))
  refine a_ (g_ rfl) rfl (a_ (g_ rfl) rfl (e_ (b_ rfl (h_ (h_ (c_ (a_ (f_ rfl) rfl (x_ (ay_ rfl rfl) rfl fun r6 hr6 => ?_))))))))
  refine a_ (f_ rfl) rfl ?_
  cases r6
  ·
   replace hr6 := of_decide_eq_false hr6
   refine p_ rfl rfl (a_ (f_ rfl) rfl (p_ rfl rfl (a_ (m_ aS_ rfl rfl rfl ca_) rfl (p_ rfl rfl (a_ (u_ 2 da_ rfl rfl rfl) rfl (p_ rfl rfl (a_ (an_ G_ rfl) rfl (p_ rfl rfl (x_ (cA_ rfl rfl) rfl fun r7 hr7 => ?_)))))))))
   refine a_ (C_ rfl rfl) rfl (a_ (f_ rfl) rfl ?_)
   cases r7
   ·
    replace hr7 := of_decide_eq_false hr7
    refine p_ rfl rfl (a_ (f_ rfl) rfl (p_ rfl rfl (x_ (cd_ rfl rfl) rfl fun r8 hr8 => ?_)))
    refine p_ rfl rfl (a_ (f_ rfl) rfl ?_)
    cases r8
    ·
     replace hr8 := of_decide_eq_false hr8
     refine r_ rfl rfl rfl rfl (r_ rfl rfl rfl rfl (r_ rfl rfl rfl rfl (r_ rfl rfl rfl rfl (r_ rfl rfl rfl rfl (r_ rfl rfl rfl rfl (r_ rfl rfl rfl rfl (p_ rfl rfl (a_ (C_ rfl rfl) rfl (a_ (C_ rfl rfl) rfl ?_)))))))))
     refine e_ (b_ rfl (v_ rfl (z_ (b_ rfl (c_ (a_ (f_ rfl) rfl (a_ (f_ rfl) rfl (fv_ (k := x1) 0 keyI (.inr rfl) Tryz.runUnderlying127 rfl rfl rfl rfl hE fun ej1 cj1 hj1 => ?_))))))))
     refine e_ (b_ rfl (c_ (a_ (P_ rfl rfl rfl (ah_ (by omega) (by omega))) rfl (a_ (f_ rfl) rfl (e_ (w_ rfl ?_))))))
     exact Z_ ⟨(i + 1, ej1, cj1, (if x1 ∈ q then q else q ++ [x1])), hlx1, hj1, iS_ hq hx1, fun x hx => by rw [List.take_add_one, hx1] at hx; simp only [Option.toList_some, List.mem_append, List.mem_singleton] at hx; rcases hx with hx | rfl; exact hb x hx; omega, mP_ (lt := fun x y : Int => x < y) Int.lt_trans hpw hx1 (fun a hja ha => by omega)⟩ (by dsimp only; omega) ⟨rfl, rfl, rfl, rfl, rfl, rfl, rfl, rfl, rfl, trivial⟩ (k_ i_ (k_ i_ i_)) (fun _ _ h => h)
    ·
     replace hr8 := of_decide_eq_true hr8
     have hly1 : (i - 1 : Nat) < List.length wh := by omega
     obtain ⟨y1, hy1⟩ : ∃ e0, wh[(i - 1 : Nat)]? = some e0 := ⟨_, List.getElem?_eq_getElem hly1⟩
     have hmy1 : y1 ∈ wh := List.mem_of_getElem? hy1
     refine p_ rfl rfl (a_ (f_ rfl) rfl (p_ rfl rfl (a_ (f_ rfl) rfl (p_ rfl rfl (a_ (bA_ (P_ rfl rfl rfl (ah_ (by omega) (by omega))) (show Value.int .i64 ((i : Int) - 1) = Value.int .i64 ((i - 1 : Nat) : Int) from congrArg _ (by omega))) rfl (p_ rfl rfl (a_ (ab_ dz_ L_ rfl rfl (fun v _ h => az_ (n := 1) fA_ (by decide) (by exact h.2.2.2.1) hy1) (by omega) (by first | omega | (simp; done))) rfl (p_ rfl rfl (a_ (aL_ (ad := had) O_ rfl (fun v _ h => by exact h.2.2.2.1) (af_ fA_ hy1 0 _ rfl)) rfl ?_)))))))))
     refine p_ rfl rfl (a_ (f_ rfl) rfl (p_ rfl rfl (x_ (cA_ rfl rfl) rfl fun r9 hr9 => ?_)))
     refine p_ rfl rfl (a_ (F_ rfl rfl) rfl (a_ (C_ rfl rfl) rfl (e_ (b_ rfl ?_))))
     cases r9
     ·
      replace hr9 := of_decide_eq_false hr9
      refine v_ rfl (z_ (b_ rfl (c_ (a_ (f_ rfl) rfl (a_ (f_ rfl) rfl (fv_ (k := x1) 0 keyI (.inr rfl) Tryz.runUnderlying127 rfl rfl rfl rfl hE fun ej2 cj2 hj2 => ?_))))))
      refine e_ (b_ rfl (c_ (a_ (P_ rfl rfl rfl (ah_ (by omega) (by omega))) rfl (a_ (f_ rfl) rfl (e_ (w_ rfl ?_))))))
      exact Z_ ⟨(i + 1, ej2, cj2, (if x1 ∈ q then q else q ++ [x1])), hlx1, hj2, iS_ hq hx1, fun x hx => by rw [List.take_add_one, hx1] at hx; simp only [Option.toList_some, List.mem_append, List.mem_singleton] at hx; rcases hx with hx | rfl; exact hb x hx; omega, mP_ (lt := fun x y : Int => x < y) Int.lt_trans hpw hx1 (fun a hja ha => by rw [hy1] at ha; cases ha; omega)⟩ (by dsimp only; omega) ⟨rfl, rfl, rfl, rfl, rfl, rfl, rfl, rfl, rfl, trivial⟩ (k_ i_ (k_ i_ i_)) (fun _ _ h => h)
     ·
      replace hr9 := of_decide_eq_true hr9
      refine t_ rfl (h_ (c_ (a_ (ax_ eM_ rfl rfl) rfl (S_ 1 ag_ rfl rfl rfl rfl rfl rfl (a_ (g_ rfl) rfl (a_ (g_ rfl) rfl (e_ (b_ rfl (E_ ?_)))))))))
      exact du_ ⟨((Wk.mk [] none 0 (Cl.mk [] none 0 [] none 0)), ([] : List Fc), none, 0, 1), by unfold ge_; rw [if_pos (fun z => by first | (have := (z.1.1 x1 hmx1); omega) | exact oA_ (lt := fun x y : Int => x < y) (by omega) hy1 hx1 (by omega) z.1.2)]; exact ⟨rfl, rfl, rfl⟩, ⟨Nat.le_refl _, by simp, fun _ => rfl⟩⟩ (fun aa v h1 h2 => dO_ (us := Wk.cells (Wk.mk [] none 0 (Cl.mk [] none 0 [] none 0))) 1 gj_ bf_ ag_ rfl rfl rfl rfl rfl aa v h1 h2) I_ (fun v _ h => by exact ⟨.inl rfl, .inl rfl, .inl rfl, .inl rfl, trivial⟩)
   ·
    replace hr7 := of_decide_eq_true hr7
    refine r_ rfl rfl rfl rfl (r_ rfl rfl rfl rfl (r_ rfl rfl rfl rfl (r_ rfl rfl rfl rfl (r_ rfl rfl rfl rfl (r_ rfl rfl rfl rfl (r_ rfl rfl rfl rfl (r_ rfl rfl rfl rfl (r_ rfl rfl rfl rfl (r_ rfl rfl rfl rfl ?_)))))))))
    refine r_ rfl rfl rfl rfl (a_ (F_ rfl rfl) rfl (e_ (b_ rfl (t_ rfl (h_ (c_ (a_ (ax_ eM_ rfl rfl) rfl (S_ 1 ag_ rfl rfl rfl rfl rfl rfl (a_ (g_ rfl) rfl ?_)))))))))
    refine a_ (g_ rfl) rfl (e_ (b_ rfl (E_ ?_)))
    exact du_ ⟨((Wk.mk [] none 0 (Cl.mk [] none 0 [] none 0)), ([] : List Fc), none, 0, 1), by unfold ge_; rw [if_pos (fun z => by first | (have := (z.1.1 x1 hmx1); omega) | exact oA_ (lt := fun x y : Int => x < y) (by omega) hy1 hx1 (by omega) z.1.2)]; exact ⟨rfl, rfl, rfl⟩, ⟨Nat.le_refl _, by simp, fun _ => rfl⟩⟩ (fun aa v h1 h2 => dO_ (us := Wk.cells (Wk.mk [] none 0 (Cl.mk [] none 0 [] none 0))) 1 gj_ bf_ ag_ rfl rfl rfl rfl rfl aa v h1 h2) I_ (fun v _ h => by exact ⟨.inl rfl, .inl rfl, .inl rfl, .inl rfl, trivial⟩)
  ·
   replace hr6 := of_decide_eq_true hr6
   refine r_ rfl rfl rfl rfl (r_ rfl rfl rfl rfl (r_ rfl rfl rfl rfl (r_ rfl rfl rfl rfl (r_ rfl rfl rfl rfl (a_ (F_ rfl rfl) rfl (a_ (f_ rfl) rfl (r_ rfl rfl rfl rfl (r_ rfl rfl rfl rfl (r_ rfl rfl rfl rfl ?_)))))))))
   refine r_ rfl rfl rfl rfl (r_ rfl rfl rfl rfl (r_ rfl rfl rfl rfl (r_ rfl rfl rfl rfl (r_ rfl rfl rfl rfl (r_ rfl rfl rfl rfl (r_ rfl rfl rfl rfl (r_ rfl rfl rfl rfl (a_ (F_ rfl rfl) rfl (e_ ?_)))))))))
   refine b_ rfl (t_ rfl (h_ (c_ (a_ (ax_ eM_ rfl rfl) rfl (S_ 1 ag_ rfl rfl rfl rfl rfl rfl (a_ (g_ rfl) rfl (a_ (g_ rfl) rfl (e_ (b_ rfl ?_)))))))))
   refine E_ ?_
   exact du_ ⟨((Wk.mk [] none 0 (Cl.mk [] none 0 [] none 0)), ([] : List Fc), none, 0, 1), by unfold ge_; rw [if_pos (fun z => by first | (have := (z.1.1 x1 hmx1); omega) | exact oA_ (lt := fun x y : Int => x < y) (by omega) hy1 hx1 (by omega) z.1.2)]; exact ⟨rfl, rfl, rfl⟩, ⟨Nat.le_refl _, by simp, fun _ => rfl⟩⟩ (fun aa v h1 h2 => dO_ (us := Wk.cells (Wk.mk [] none 0 (Cl.mk [] none 0 [] none 0))) 1 gj_ bf_ ag_ rfl rfl rfl rfl rfl aa v h1 h2) I_ (fun v _ h => by exact ⟨.inl rfl, .inl rfl, .inl rfl, .inl rfl, trivial⟩)
end Go.Proofs.YtpdbbglpbngeiaaGreatDoor
namespace Go.Proofs.YtpdbbglpbngeiaaGreatDoor
open Go Go.Sx Go.Proofs
attribute [local irreducible] Code.wp wpList wpAnyH
open Go.Vs
theorem kE_ (p : List Pc) (pad : Option Addr) (pcap : Nat) (hp : p.length ≤ 1099511627776) (hbig : ∀ x ∈ p, x.big) : Tri Tryz.prog 31 #[.slice pad (List.length p) pcap] [] [aw_ pad (List.flatMap Pc.cells p)] (fun b : {b : Bool // b = true → p.length ≤ 30 ∧ ∀ x ∈ p, x.sm} => .bool b.1) (fun _ => []) (fun _ => []) := by
  refine T_ Tryz.func31 rfl rfl Tryz.ntmps31 rfl fun v0 => ?_
  refine h_ (c_ (a_ (g_ rfl) rfl (e_ (b_ rfl (h_ (c_ (a_ (g_ rfl) rfl (e_ (b_ rfl ?_)))))))))
  refine h_ (h_ (c_ (a_ (f_ rfl) rfl (a_ (an_ G_ rfl) rfl (a_ (f_ rfl) rfl (e_ (b_ rfl (R_ ?_))))))))
  refine aI_ (ι := {y : Nat × Int // y.1 ≤ List.length p ∧ (List.length p ≤ 30 → y.2 = gd_ (List.take y.1 p))}) (fun y => [(0, .slice pad (List.length p) pcap), (3, .int .i64 y.1.2), (6, .slice pad (List.length p) pcap), (7, .int .i64 (List.length p : Int)), (8, .int .i64 (y.1.1 : Int))]) (fun y => ([])) (fun y => [aw_ pad (List.flatMap Pc.cells p)]) (fun y => List.length p - y.1.1) ⟨((0 : Nat), 0), by simp, fun _ => rfl⟩ ⟨rfl, rfl, rfl, rfl, rfl, trivial⟩ I_ (fun _ _ h => h) ?_
  rintro ⟨⟨i, w⟩, hi, hw⟩
  dsimp only at hi hw ⊢
  refine h_ (c_ (x_ (ay_ rfl rfl) rfl fun r1 hr1 => ?_))
  refine e_ (b_ rfl (h_ ?_))
  cases r1
  · skip
    replace hr1 := of_decide_eq_false hr1
    refine v_ rfl (at_ rfl (b_ rfl (h_ (c_ (a_ (f_ rfl) rfl (a_ (an_ G_ rfl) rfl (x_ (cc_ rfl rfl) rfl fun r2 hr2 => ?_)))))))
    refine a_ (f_ rfl) rfl ?_
    cases r2
    · skip
      replace hr2 := of_decide_eq_false hr2
      refine r_ rfl rfl rfl rfl (r_ rfl rfl rfl rfl (a_ (C_ rfl rfl) rfl (a_ (g_ rfl) rfl (e_ (b_ rfl (E_ ?_))))))
      exact ar_ Tryz.results31 ⟨false, fun h => by cases h⟩ rfl I_ (fun _ _ _ => trivial)
    · skip
      replace hr2 := of_decide_eq_true hr2
      refine p_ rfl rfl (a_ (f_ rfl) rfl (p_ rfl rfl (x_ (cc_ rfl rfl) rfl fun r3 hr3 => ?_)))
      refine a_ (F_ rfl rfl) rfl (a_ (g_ rfl) rfl (e_ (b_ rfl (E_ ?_))))
      exact ar_ Tryz.results31 ⟨r3, fun h => ⟨by omega, by rw [h] at hr3; have hle := of_decide_eq_true hr3; rw [hw (by omega), List.take_of_length_le (by omega)] at hle; exact mR_ hle (by decide)⟩⟩ rfl I_ (fun _ _ _ => trivial)
  · skip
    replace hr1 := of_decide_eq_true hr1
    have hlx1 : i < List.length p := by omega
    obtain ⟨x1, hx1⟩ : ∃ e0, p[i]? = some e0 := ⟨_, List.getElem?_eq_getElem hlx1⟩
    have hmx1 : x1 ∈ p := List.mem_of_getElem? hx1
    obtain ⟨q1, q2, q3, q4, q5, q6⟩ := hbig x1 hmx1
    refine t_ rfl (z_ (b_ rfl (h_ (R_ (h_ (c_ (a_ (ab_ G_ M_ rfl rfl (fun v _ h => az_ (n := 10) Pc.cells_len (by decide) (by exact h.1) hx1) (by omega) (by first | omega | (simp; done))) rfl (a_ (aT_ (ad := pad) (us := Pc.cells x1) aH_ M_ rfl (fun v _ h => by exact h.1) (Pc.cells_len _) (af_ Pc.cells_len hx1)) rfl (ao_ bd_ rfl fun b1 => ?_)))))))))
    refine S_ 0 M_ rfl rfl rfl rfl rfl rfl (e_ (b_ rfl (c_ (a_ (f_ rfl) rfl (a_ (m_ l_ rfl rfl rfl j_) rfl (a_ (u_ 0 q_ rfl rfl rfl) rfl (a_ (bT_ V_ rfl) rfl (a_ (m_ l_ rfl rfl rfl j_) rfl (a_ (u_ 0 q_ rfl rfl rfl) rfl ?_)))))))))
    refine a_ (bT_ V_ rfl) rfl (a_ (P_ rfl rfl rfl (ah_ (by omega) (by omega))) rfl (a_ (m_ l_ rfl rfl rfl j_) rfl (a_ (u_ 0 q_ rfl rfl rfl) rfl (a_ (bT_ V_ rfl) rfl (a_ (P_ rfl rfl rfl (ah_ (by omega) (by omega))) rfl (a_ (m_ l_ rfl rfl rfl j_) rfl (a_ (u_ 0 q_ rfl rfl rfl) rfl (a_ (bT_ V_ rfl) rfl (a_ (P_ rfl rfl rfl (ah_ (by omega) (by omega))) rfl ?_)))))))))
    refine a_ (m_ l_ rfl rfl rfl j_) rfl (a_ (u_ 0 q_ rfl rfl rfl) rfl (a_ (bT_ V_ rfl) rfl (a_ (P_ rfl rfl rfl (ah_ (by omega) (by omega))) rfl (a_ (m_ l_ rfl rfl rfl j_) rfl (a_ (u_ 0 q_ rfl rfl rfl) rfl (a_ (bT_ V_ rfl) rfl (a_ (P_ rfl rfl rfl (ah_ (by omega) (by omega))) rfl (a_ (nY_ rfl rfl) rfl (a_ (g_ rfl) rfl ?_)))))))))
    refine e_ (b_ rfl (c_ (a_ (P_ rfl rfl rfl (ah_ (by omega) (by omega))) rfl (a_ (f_ rfl) rfl (e_ (w_ rfl ?_))))))
    exact Z_ ⟨(i + 1, (IntKind.wrap .i64 (w + (((((((Pc.a x1).length : Int) + ((Pc.b x1).length : Int)) + ((Pc.c x1).length : Int)) + ((Pc.r x1).length : Int)) + ((Pc.s x1).length : Int)) + ((Pc.t x1).length : Int))))), hlx1, fun h40 => by rw [ns_ hx1, hw h40]; have hq := lw_ (l := List.take i p) (fun x hx => hbig x (List.mem_of_mem_take hx)); rw [List.length_take] at hq; unfold iL_; exact ah_ (by omega) (by omega)⟩ (by dsimp only; omega) ⟨rfl, rfl, rfl, rfl, rfl, trivial⟩ I_ (fun _ _ h => h)
section
variable {P : Program} {N : Nat} {fr : Fr} {H : Hp} {Γ : List Fct} {ty : TypeId}
end
def P13 : List Pc := [⟨1, [65], [], [66], [], [], [], 0, 0, 0⟩, ⟨1, [66], [], [67], [], [], [], 0, 0, 0⟩, ⟨1, [65], [], [67], [], [], [], 0, 0, 0⟩]
def P12 : List Pc := [⟨1, [65], [], [66], [], [], [], 0, 0, 0⟩, ⟨1, [66], [], [67], [], [], [], 0, 0, 0⟩]
def P11 : List Pc := [⟨1, [65], [], [66], [], [], [], 0, 0, 0⟩]
theorem mB_ {p : List Pc} {B : List Str} (hs : mC_ B) (h : ∀ x, x ∈ B ↔ x ∈ cs_ p ∨ x = [42] ∨ x = [33]) : atS p = B :=
  ey_ eg_ List.lt_trans (jv_ p) hs fun x => by rw [is_, eE_, h]
theorem qk_ : atS P13 = A3 := mB_ (by decide) fun x => by
  have e : cs_ P13 = [[65], [66], [66], [67], [65], [67]] := by decide +kernel
  rw [e]; simp only [A3, List.mem_cons, List.not_mem_nil, or_false]
  constructor
  · rintro (h | h | h | h | h) <;> simp [h]
  · rintro ((h | h | h | h | h | h) | h | h) <;> simp [h]
theorem ql_ : atS P12 = A3 := mB_ (by decide) fun x => by
  have e : cs_ P12 = [[65], [66], [66], [67]] := by decide +kernel
  rw [e]; simp only [A3, List.mem_cons, List.not_mem_nil, or_false]
  constructor
  · rintro (h | h | h | h | h) <;> simp [h]
  · rintro ((h | h | h | h) | h | h) <;> simp [h]
def A2 : List Str := [[33], [42], [65], [66]]
theorem qm_ : atS P11 = A2 := mB_ (by decide) fun x => by
  have e : cs_ P11 = [[65], [66]] := by decide +kernel
  rw [e]; simp only [A2, List.mem_cons, List.not_mem_nil, or_false]
  constructor
  · rintro (h | h | h | h) <;> simp [h]
  · rintro ((h | h) | h | h) <;> simp [h]
theorem kP_ : bC_ P13 = 0 := by decide +kernel
theorem nc_ : bC_ P12 = 0 := by decide +kernel
theorem nd_ : bC_ P11 = 0 := by decide +kernel
def F13 : List Fc := gO_ P13 A3 4
def F11 : List Fc := gO_ P11 A2 4
theorem F13_is : dm_ P13 A3 100 (some F13) := hG_ (fa_ kP_) 4 100 (by decide +kernel) (by decide +kernel)
theorem F12_is : dm_ P12 A3 100 (some F13) := by
  have h : dm_ P12 A3 100 (some (gO_ P12 A3 4)) := hG_ (fa_ nc_) 4 100 (by decide +kernel) (by decide +kernel)
  have e : gO_ P12 A3 4 = F13 := by decide +kernel
  rw [e] at h; exact h
theorem F11_is : dm_ P11 A2 100 (some F11) := hG_ (fa_ nd_) 4 100 (by decide +kernel) (by decide +kernel)
theorem pz_ : (bP_ F13 F0).length = 9 := by decide +kernel
theorem pe_ : (bP_ F13 F13).length = 0 := by decide +kernel
theorem oP_ : (bP_ F13 F11).length = 4 := by decide +kernel
theorem ne_ : F13.length = 12 := by decide +kernel
theorem hl_ {p : List Pc} {bu : Int} {w : Wk} {e : Int} {L : List Fc} (h : dh_ p bu w e) (hc : bC_ p = 0) (hb : 0 ≤ bu) (hb2 : bu ≤ 1073741824) (hr : dm_ p (atS p) (min bu 65536).toNat (some L)) : e = 0 ∧ w.ps = p ∧ w.cl.facts = L ∧ w.cl.atoms = atS p ∧ w.ok := by
  obtain ⟨c, h1, h2, _⟩ := h
  obtain ⟨q1, q2, q3⟩ := (it_ h1 hc hb hb2 hr).1 _ rfl
  obtain ⟨r1, r2, r3⟩ := h2 q1
  exact ⟨q1, r1, by rw [r2, q2], by rw [r2, q3], r3⟩
theorem s13_1 {w : Wk} {e : Int} (h : dh_ [] 3 w e) : e = 0 ∧ w.ps = [] ∧ w.cl.facts = F0 ∧ w.ok := by
  obtain ⟨a, b, c, _, d⟩ := hl_ h kp_ (by decide) (by decide) (L := F0) (by rw [kH_]; exact F0_is 3 (by decide))
  exact ⟨a, b, c, d⟩
theorem s13_2 {w : Wk} {e : Int} (h : dh_ [] 2 w e) : e = 3 := by
  obtain ⟨c, h1, _⟩ := h
  exact (sane2 h1).1
theorem s13_3 {w x : Wk} {g : List Fc} {e : Int} (hw : w.ps = []) (hf : w.cl.facts = F0) (h : eR_ w P13 100 x g e) : e = 0 ∧ x.ps = P13 ∧ x.cl.facts = F13 ∧ x.ok ∧ g.length = 9 := by
  unfold eR_ at h
  rw [if_neg (by rw [kP_]; decide), if_neg (by decide), if_neg (by rw [hw]; decide), hw, List.nil_append] at h
  obtain ⟨a, b, c, _, d⟩ := hl_ h.1 kP_ (by decide) (by decide) (L := F13) (by rw [qk_]; exact F13_is)
  refine ⟨a, b, c, d, ?_⟩
  rw [h.2, if_pos a, c, hf]; exact pz_
theorem s13_4 {x y : Wk} {g : List Fc} {e : Int} (hx : x.ps = P13) (hf : x.cl.facts = F13) (h : ge_ x [2] 100 y g e) : e = 0 ∧ y.ps = P12 ∧ y.cl.facts = F13 ∧ y.ok ∧ g.length = 0 := by
  unfold ge_ at h
  rw [if_neg (by rw [hx]; decide), hx, show dI_ [2] 0 P13 = P12 by decide +kernel] at h
  obtain ⟨a, b, c, _, d⟩ := hl_ h.1 nc_ (by decide) (by decide) (L := F13) (by rw [ql_]; exact F12_is)
  refine ⟨a, b, c, d, ?_⟩
  rw [h.2, if_pos a, c, hf]; exact pe_
theorem s13_5 {x y : Wk} {g : List Fc} {e : Int} (hx : x.ps = P12) (hf : x.cl.facts = F13) (h : ge_ x [1] 100 y g e) : e = 0 ∧ g.length = 4 := by
  unfold ge_ at h
  rw [if_neg (by rw [hx]; decide), hx, show dI_ [1] 0 P12 = P11 by decide +kernel] at h
  obtain ⟨a, b, c, _, d⟩ := hl_ h.1 nd_ (by decide) (by decide) (L := F11) (by rw [qm_]; exact F11_is)
  refine ⟨a, ?_⟩
  rw [h.2, if_pos a, c, hf]; exact oP_
theorem s13_6 {e : Int} (h : jw_ Wk.no e) : e = 1 := by
  unfold jw_ at h
  rw [if_neg (by rw [show Wk.no.ps = [] from rfl, kp_]; decide)] at h
  obtain ⟨c, e1, h1, h2⟩ := h
  rw [h2, if_neg]
  rintro ⟨q1, q2, _⟩
  subst q1
  have h1' : dG_ [] 1073741824 c 0 := h1
  have := h1'.good.2.2.2.2.1
  rw [q2, kH_] at this
  cases this
theorem pq_ : ∀ x ∈ P13, x.sm := Pc.sm_all (by decide +kernel)
theorem P12_sm : ∀ x ∈ P12, x.sm := Pc.sm_all (by decide +kernel)
end Go.Proofs.YtpdbbglpbngeiaaGreatDoor
namespace Go.Proofs.YtpdbbglpbngeiaaGreatDoor
open Go Go.Sx Go.Proofs
attribute [local irreducible] Code.wp wpList wpAnyH
open Go.Vs
set_option maxHeartbeats 1000000 in
theorem on_ : Tri Tryz.prog 30 #[] [] [gi_] (fun _ : Unit => .bool true) (fun _ => []) (fun _ => []) := by
 refine T_ Tryz.func30 rfl rfl Tryz.ntmps30 rfl fun v0 => ?_
 refine h_ (c_ (a_ (g_ rfl) rfl (e_ (b_ rfl (h_ (c_ (W_ (hm_ ([] : List Pc) none 0 3 (fun y hy => by simp at hy) (Nat.le_refl _) (by simp)) rfl I_ (fun v _ h => by exact ⟨.inl rfl, h.1, trivial⟩) rfl fun ⟨⟨w1, e1⟩, hw1⟩ => ?_)))))))
 dsimp only
 dsimp only at hw1
 obtain ⟨rfl, hp1, hf1, hk1⟩ := s13_1 hw1
 refine a_ (f_ rfl) rfl (a_ (Y_ rfl rfl) rfl (a_ (Y_ rfl rfl) rfl (ao_ by_ rfl fun b1 => ?_)))
 refine S_ 0 ag_ rfl rfl rfl rfl rfl rfl (a_ (g_ rfl) rfl (e_ (b_ rfl (h_ (c_ (W_ (hm_ ([] : List Pc) none 0 2 (fun y hy => by simp at hy) (Nat.le_refl _) (by simp)) rfl I_ (fun v _ h => by exact ⟨.inl rfl, h.2.2.2.1, trivial⟩) rfl fun ⟨⟨w2, e2⟩, hw2⟩ => ?_))))))
 dsimp only
 dsimp only at hw2
 obtain rfl := s13_2 hw2
 refine a_ (f_ rfl) rfl (a_ (Y_ rfl rfl) rfl (a_ (Y_ rfl rfl) rfl (ao_ by_ rfl fun b2 => ?_)))
 refine S_ 0 ag_ rfl rfl rfl rfl rfl rfl (a_ (g_ rfl) rfl (e_ (b_ rfl (h_ (c_ (a_ (ax_ kj_ rfl rfl) rfl (a_ (ax_ kj_ rfl rfl) rfl (a_ (ax_ kj_ rfl rfl) rfl (aK_ G_ M_ bd_ rfl rfl rfl rfl rfl rfl fun b3 => ?_)))))))))
 refine bx_ (List.flatMap Pc.cells [(Pc.mk 1 [65] [] [66] [] [] [] 0 0 0), (Pc.mk 1 [66] [] [67] [] [] [] 0 0 0), (Pc.mk 1 [65] [] [67] [] [] [] 0 0 0)]) i_ rfl ?_
 refine a_ (g_ rfl) rfl (e_ (b_ rfl (h_ (c_ (a_ (X_ 1 bf_ ag_ rfl rfl rfl) rfl (a_ (f_ rfl) rfl (W_ (gP_ w1 P13 (some ⟨b3, 0, none⟩) 3 100 (fun y hy => by rw [hp1] at hy; simp at hy) hk1.al hk1.az (by rw [hp1]; simp) (by rw [hf1, pt_]; omega) pq_ (by decide) (fun z => by cases z) (by decide)) rfl I_ (fun v _ h => by exact ⟨h.2.2.2.2.1, h.2.2.2.2.2.1, h.2.2.2.2.2.2.1, h.1, h.2.2.2.2.2.2.2.1, trivial⟩) rfl fun ⟨⟨w3, g3, gad3, gcp3, e3⟩, ha3, hb3⟩ => ?_)))))))
 dsimp only
 dsimp only at ha3 hb3
 obtain ⟨rfl, hp3, hf3, hk3, hg3⟩ := s13_3 hp1 hf1 ha3
 refine a_ (f_ rfl) rfl (a_ (Y_ rfl rfl) rfl (a_ (Y_ rfl rfl) rfl (a_ (Y_ rfl rfl) rfl (ao_ by_ rfl fun b4 => ?_))))
 refine S_ 0 ag_ rfl rfl rfl rfl rfl rfl (a_ (g_ rfl) rfl (a_ (g_ rfl) rfl (e_ (b_ rfl (h_ (c_ (a_ (X_ 0 bf_ ag_ rfl rfl rfl) rfl (aK_ dz_ L_ Tryz.zeroValue3 rfl rfl rfl rfl rfl rfl fun b5 => ?_))))))))
 refine bx_ (List.flatMap kw_ [2]) i_ rfl ?_
 refine W_ (lp_ w3 [2] (some ⟨b5, 0, none⟩) 1 100 (fun y hy => by rw [hp3] at hy; exact pq_ y hy) hk3.al hk3.az (by rw [hp3]; decide) (by rw [hf3, ne_]; omega) (by simp)) rfl I_ (fun v _ h => by exact ⟨h.2.1, h.2.2.1, h.2.2.2.1, h.1, h.2.2.2.2.2.2.2.2.2.2.2.2.1, trivial⟩) rfl fun ⟨⟨w4, g4, gad4, gcp4, e4⟩, ha4, hb4⟩ => ?_
 dsimp only
 dsimp only at ha4 hb4
 obtain ⟨rfl, hp4, hf4, hk4, hg4⟩ := s13_4 hp3 hf3 ha4
 refine a_ (f_ rfl) rfl (a_ (Y_ rfl rfl) rfl (a_ (Y_ rfl rfl) rfl (a_ (Y_ rfl rfl) rfl (ao_ by_ rfl fun b6 => ?_))))
 refine S_ 0 ag_ rfl rfl rfl rfl rfl rfl (a_ (g_ rfl) rfl (a_ (g_ rfl) rfl (e_ (b_ rfl (h_ (c_ (a_ (X_ 0 bf_ ag_ rfl rfl rfl) rfl (aK_ dz_ L_ Tryz.zeroValue3 rfl rfl rfl rfl rfl rfl fun b7 => ?_))))))))
 refine bx_ (List.flatMap kw_ [1]) i_ rfl ?_
 refine W_ (lp_ w4 [1] (some ⟨b7, 0, none⟩) 1 100 (fun y hy => by rw [hp4] at hy; exact P12_sm y hy) hk4.al hk4.az (by rw [hp4]; decide) (by rw [hf4, ne_]; omega) (by simp)) rfl I_ (fun v _ h => by exact ⟨h.2.1, h.2.2.1, h.2.2.2.1, h.1, h.2.2.2.2.2.2.2.2.2.2.2.2.2.2.2.2.2.1, trivial⟩) rfl fun ⟨⟨w5, g5, gad5, gcp5, e5⟩, ha5, hb5⟩ => ?_
 dsimp only
 dsimp only at ha5 hb5
 obtain ⟨rfl, hg5⟩ := s13_5 hp4 hf4 ha5
 refine a_ (f_ rfl) rfl (a_ (Y_ rfl rfl) rfl (a_ (Y_ rfl rfl) rfl (a_ (Y_ rfl rfl) rfl (ao_ by_ rfl fun b8 => ?_))))
 refine S_ 0 ag_ rfl rfl rfl rfl rfl rfl (a_ (g_ rfl) rfl (a_ (g_ rfl) rfl (e_ (b_ rfl (h_ (c_ (a_ (f_ rfl) rfl (a_ (bA_ (aE_ rfl rfl) (show _ = Value.bool true from congrArg Value.bool (by decide))) rfl (a_ (f_ rfl) rfl ?_)))))))))
 refine p_ rfl rfl (a_ (m_ aS_ rfl rfl rfl ac_) rfl (p_ rfl rfl (a_ (m_ aJ_ rfl rfl rfl bB_) rfl (p_ rfl rfl (a_ (u_ 4 bI_ rfl rfl rfl) rfl (p_ rfl rfl (a_ (an_ H_ rfl) rfl (p_ rfl rfl (x_ (aE_ rfl rfl) rfl fun r1 hr1 => ?_)))))))))
 refine a_ (F_ rfl rfl) rfl (a_ (f_ rfl) rfl ?_)
 cases r1
 ·
  replace hr1 := ne_of_beq_false hr1
  exact absurd (by rw [hf1, pt_]; rfl) hr1
 ·
  replace hr1 := eq_of_beq hr1
  refine p_ rfl rfl (a_ (f_ rfl) rfl (p_ rfl rfl (a_ (bA_ (aE_ rfl rfl) (show _ = Value.bool true from congrArg Value.bool (by decide))) rfl (a_ (F_ rfl rfl) rfl (a_ (f_ rfl) rfl (p_ rfl rfl (a_ (ax_ eM_ rfl rfl) rfl (p_ rfl rfl (W_ (chkW_c ((Wk.mk [] none 0 (Cl.mk [] none 0 [] none 0))) (fun y hy => by simp at hy) (by simp) (by simp) (by simp)) rfl I_ (fun v _ h => by exact ⟨.inl rfl, .inl rfl, .inl rfl, h.2.2.2.2.2.2.2.2.2.2.2.2.2.2.2.2.2.2.2.2.2.1, trivial⟩) rfl fun ⟨e9, he9⟩ => ?_)))))))))
  dsimp only
  obtain rfl := s13_6 he9
  refine p_ rfl rfl (a_ (bA_ (aE_ rfl rfl) (show _ = Value.bool true from congrArg Value.bool (by decide))) rfl (a_ (F_ rfl rfl) rfl (a_ (f_ rfl) rfl (p_ rfl rfl (a_ (f_ rfl) rfl (p_ rfl rfl (a_ (bA_ (aE_ rfl rfl) (show _ = Value.bool true from congrArg Value.bool (by decide))) rfl (a_ (F_ rfl rfl) rfl (a_ (f_ rfl) rfl ?_)))))))))
  refine p_ rfl rfl (a_ (f_ rfl) rfl (p_ rfl rfl (a_ (an_ H_ rfl) rfl (p_ rfl rfl (x_ (aE_ rfl rfl) rfl fun r2 hr2 => ?_)))))
  refine a_ (F_ rfl rfl) rfl (a_ (f_ rfl) rfl ?_)
  cases r2
  ·
   replace hr2 := ne_of_beq_false hr2
   exact absurd (by rw [hg3]; rfl) hr2
  ·
   replace hr2 := eq_of_beq hr2
   refine p_ rfl rfl (a_ (f_ rfl) rfl (p_ rfl rfl (a_ (bA_ (aE_ rfl rfl) (show _ = Value.bool true from congrArg Value.bool (by decide))) rfl (a_ (F_ rfl rfl) rfl (a_ (f_ rfl) rfl (p_ rfl rfl (a_ (f_ rfl) rfl (p_ rfl rfl (a_ (an_ H_ rfl) rfl ?_)))))))))
   refine p_ rfl rfl (x_ (aE_ rfl rfl) rfl fun r3 hr3 => ?_)
   refine a_ (F_ rfl rfl) rfl (a_ (f_ rfl) rfl ?_)
   cases r3
   ·
    replace hr3 := ne_of_beq_false hr3
    exact absurd (by rw [hg4]; rfl) hr3
   ·
    replace hr3 := eq_of_beq hr3
    refine p_ rfl rfl (a_ (f_ rfl) rfl (p_ rfl rfl (a_ (bA_ (aE_ rfl rfl) (show _ = Value.bool true from congrArg Value.bool (by decide))) rfl (a_ (F_ rfl rfl) rfl (a_ (f_ rfl) rfl (p_ rfl rfl (a_ (f_ rfl) rfl (p_ rfl rfl (a_ (an_ H_ rfl) rfl ?_)))))))))
    refine p_ rfl rfl (x_ (aE_ rfl rfl) rfl fun r4 hr4 => ?_)
    refine a_ (F_ rfl rfl) rfl (a_ (g_ rfl) rfl (e_ (b_ rfl (E_ ?_))))
    exact ar_ Tryz.results30 () (y_ rfl (by rw [← hr4, hg5]; rfl)) I_ (fun _ _ _ => trivial)
end Go.Proofs.YtpdbbglpbngeiaaGreatDoor
namespace Go.Proofs.YtpdbbglpbngeiaaGreatDoor
open Go Go.Sx Go.Proofs
attribute [local irreducible] Code.wp wpList wpAnyH
open Go.Vs
structure Chg where
  ps : List Pc
  ad : Option Addr
  cap : Nat
  msk : Int
def Chg.cells (c : Chg) : List Value := [.slice c.ad c.ps.length c.cap, .int .u32 c.msk]
theorem Chg.cells_len (c : Chg) : c.cells.length = 2 := rfl
def Chg.val (c : Chg) : Value := .agg c.cells.toArray
structure Chg.ok (c : Chg) : Prop where
  le : c.ps.length ≤ c.cap
  nz : c.ad = none → c.cap = 0
  mx : c.cap ≤ 1099511627744
  big : ∀ x ∈ c.ps, x.big
end Go.Proofs.YtpdbbglpbngeiaaGreatDoor
namespace Go.Proofs.YtpdbbglpbngeiaaGreatDoor
open Go Go.Sx Go.Proofs
attribute [local irreducible] Code.wp wpList wpAnyH
open Go.Vs
theorem nA_ (xs : List PL) (xad : Option Addr) (xcap : Nat) (hok : ∀ x ∈ xs, x.ok) (hl : xs.length ≤ 100) (hsm : ∀ x ∈ dL_ xs, x.sm) (hp : (dL_ xs).length ≤ 100) : Tri Tryz.prog 33 #[.slice xad (List.length xs) xcap] [] [aw_ xad (List.flatMap PL.cells xs), plF xs] (fun b : Bool => .bool b) (fun _ => []) (fun _ => []) := by
  refine T_ Tryz.func33 rfl rfl Tryz.ntmps33 rfl fun v0 => ?_
  refine h_ (c_ (a_ (g_ rfl) rfl (e_ (b_ rfl (h_ (c_ (a_ (g_ rfl) rfl (e_ (b_ rfl ?_)))))))))
  refine h_ (h_ (c_ (a_ (f_ rfl) rfl (a_ (an_ dl_ rfl) rfl (a_ (f_ rfl) rfl (e_ (b_ rfl (R_ ?_))))))))
  refine aI_ (ι := {y : Nat × Value × Hp // y.1 ≤ List.length xs ∧ aO_ 47 10 y.2.1 (List.length (dL_ (List.take y.1 xs))) (List.flatMap Pc.cells (dL_ (List.take y.1 xs))) y.2.2}) (fun y => [(8, .slice xad (List.length xs) xcap), (9, .int .i64 (List.length xs : Int)), (10, .int .i64 (y.1.1 : Int)), (3, y.1.2.1)]) (fun y => (y.1.2.2)) (fun y => [aw_ xad (List.flatMap PL.cells xs), plF xs]) (fun y => List.length xs - y.1.1) ⟨((0 : Nat), (.slice none 0 0), []), by simp, (aO_.nil _ _)⟩ ⟨rfl, rfl, rfl, rfl, trivial⟩ I_ (fun _ _ h => h) ?_
  rintro ⟨⟨j, sv_Rp, H_Rp⟩, hj, hr_Rp⟩
  dsimp only at hj hr_Rp ⊢
  have hpl := jU_ hok j
  refine h_ (c_ (x_ (ay_ rfl rfl) rfl fun r1 hr1 => ?_))
  refine e_ (b_ rfl (h_ ?_))
  cases r1
  · skip
    replace hr1 := of_decide_eq_false hr1
    rw [List.take_of_length_le (by omega)] at hr_Rp
    refine v_ rfl (at_ rfl (b_ rfl (h_ (c_ (a_ (f_ rfl) rfl (bi_ hr_Rp aD_ fun tad tcp htad hctad hmtad hztad => ?_))))))
    subst htad
    refine W_ (rAll_c (dL_ xs) tad tcp 1000 hsm (by omega)) rfl I_ (fun v _ h => by exact ⟨h.1, trivial⟩) rfl fun ⟨⟨c1, e1⟩, hA1⟩ => ?_
    dsimp only
    dsimp only at hA1
    refine a_ (f_ rfl) rfl (a_ (Y_ rfl rfl) rfl (a_ (Y_ rfl rfl) rfl (ao_ en_ rfl fun b1 => ?_)))
    refine S_ 0 ac_ rfl rfl rfl rfl rfl rfl (a_ (g_ rfl) rfl (e_ (b_ rfl (h_ (c_ (a_ (f_ rfl) rfl (x_ (bL_ rfl rfl) rfl fun r2 hr2 => ?_)))))))
    refine a_ (g_ rfl) rfl (e_ (b_ rfl (E_ ?_)))
    exact ar_ Tryz.results33 r2 rfl I_ (fun _ _ _ => trivial)
  · skip
    replace hr1 := of_decide_eq_true hr1
    have hlx2 : j < List.length xs := by omega
    obtain ⟨x2, hx2⟩ : ∃ e0, xs[j]? = some e0 := ⟨_, List.getElem?_eq_getElem hlx2⟩
    have hmx2 : x2 ∈ xs := List.mem_of_getElem? hx2
    have hsh1 := (hok x2 hmx2).sh
    refine t_ rfl (z_ (b_ rfl (h_ (R_ (h_ (c_ (a_ (ab_ dl_ ca_ rfl rfl (fun v _ h => az_ (n := 1) PL.cells_len (by decide) (by exact h.1) hx2) (by omega) (by first | omega | (simp; done))) rfl (a_ (aL_ (ad := xad) da_ rfl (fun v _ h => by exact h.1) (af_ PL.cells_len hx2 0 _ rfl)) rfl (a_ (g_ rfl) rfl ?_)))))))))
    refine e_ (b_ rfl (c_ (a_ (f_ rfl) rfl (a_ (f_ rfl) rfl (aB_ (news := List.flatMap Pc.cells (PL.l x2)) eD_ hr_Rp rfl rfl (hok x2 hmx2).nz (hok x2 hmx2).le aD_ (by rw [bg_ Pc.cells 10 Pc.cells_len]) (fun v _ h => by exact (h.2.1 x2 hmx2)) (fun u hu => aG_ Pc.cells_one hu) (by simp only [maxLen]; (have := (hok x2 hmx2).sh; omega)) (by (have := (hok x2 hmx2).sh; omega)) rfl fun sv1 Hr1 hr1 => ?_)))))
    refine ak_ List.perm_append_comm ?_
    have hq1 : aO_ 47 10 sv1 (List.length ((dL_ (List.take j xs)) ++ (PL.l x2))) (List.flatMap Pc.cells ((dL_ (List.take j xs)) ++ (PL.l x2))) Hr1 := by rw [List.length_append, List.flatMap_append]; exact hr1
    refine a_ (g_ rfl) rfl (e_ (b_ rfl (c_ (a_ (P_ rfl rfl rfl (ah_ (by omega) (by omega))) rfl (a_ (f_ rfl) rfl (e_ (w_ rfl ?_)))))))
    exact Z_ ⟨(j + 1, sv1, Hr1), hlx2, (by rw [iJ_ hx2]; exact hq1)⟩ (by dsimp only; omega) ⟨rfl, rfl, rfl, rfl, trivial⟩ aD_ (fun _ _ h => h)
theorem nm_ (v w : Wk) (hv : v.ps.length ≤ 1000000000000) (hw : w.ps.length ≤ 1000000000000) (h1 : v.cl.atoms.length ≤ 1000000000000) (h2 : v.cl.facts.length ≤ 1000000000000) (h3 : w.cl.atoms.length ≤ 1000000000000) (h4 : w.cl.facts.length ≤ 1000000000000) : Tri Tryz.prog 36 #[Wk.val v, Wk.val w] [] [aw_ (Wk.pad v) (List.flatMap Pc.cells (Wk.ps v)), aw_ (Cl.aad (Wk.cl v)) (List.flatMap aM_ (Cl.atoms (Wk.cl v))), aw_ (Cl.fad (Wk.cl v)) (List.flatMap Fc.cells (Cl.facts (Wk.cl v))), aw_ (Wk.pad w) (List.flatMap Pc.cells (Wk.ps w)), aw_ (Cl.aad (Wk.cl w)) (List.flatMap aM_ (Cl.atoms (Wk.cl w))), aw_ (Cl.fad (Wk.cl w)) (List.flatMap Fc.cells (Cl.facts (Wk.cl w)))] (fun _ : Unit => .bool (decide (v.ps = w.ps) && (decide (Cl.atoms (Wk.cl v) = Cl.atoms (Wk.cl w)) && decide (Cl.facts (Wk.cl v) = Cl.facts (Wk.cl w))))) (fun _ => []) (fun _ => []) := by
 refine T_ Tryz.func36 rfl rfl Tryz.ntmps36 rfl fun v0 => ?_
 refine h_ (c_ (bs_ rfl rfl fun b1 => ?_))
 refine bs_ rfl rfl fun b2 => ?_
 refine a_ (g_ rfl) rfl (e_ (b_ rfl (h_ (h_ (c_ (a_ (m_ aS_ rfl rfl rfl ca_) rfl (a_ (u_ 1 da_ rfl rfl rfl) rfl (a_ (an_ G_ rfl) rfl (a_ (m_ aS_ rfl rfl rfl ca_) rfl ?_)))))))))
 refine a_ (u_ 0 da_ rfl rfl rfl) rfl (a_ (an_ G_ rfl) rfl (x_ (bL_ rfl rfl) rfl fun r1 hr1 => ?_))
 refine a_ (f_ rfl) rfl ?_
 cases r1
 ·
  replace hr1 := aX_ hr1
  have hlen : (Wk.ps v).length = (Wk.ps w).length := by have := hr1; omega
  refine p_ rfl rfl (a_ (m_ aS_ rfl rfl rfl ac_) rfl (p_ rfl rfl (a_ (X_ 1 aV_ ac_ rfl rfl rfl) rfl (p_ rfl rfl (a_ (m_ aS_ rfl rfl rfl ac_) rfl (p_ rfl rfl (a_ (X_ 0 aV_ ac_ rfl rfl rfl) rfl (p_ rfl rfl (au_ (mJ_ (Wk.cl v) (Wk.cl w) (by omega) (by omega) (by omega) (by omega)) rfl I_ (fun v _ h => by exact ⟨h.2.1, h.2.2.1, h.2.2.2.2.1, h.2.2.2.2.2.1, trivial⟩) rfl fun r2 hr2 => ?_)))))))))
  refine p_ rfl rfl (a_ (cb_ rfl) rfl (a_ (C_ rfl rfl) rfl (e_ (b_ rfl ?_))))
  cases r2
  ·
   simp at hr2
   refine t_ rfl (h_ (c_ (a_ (g_ rfl) rfl (e_ (b_ rfl (E_ ?_))))))
   exact ar_ Tryz.results36 () (y_ rfl (by symm; rw [Bool.and_eq_false_iff]; first | (left; apply decide_eq_false; intro e; rw [e] at *; exact absurd rfl (by assumption)) | (right; simp_all; done) | (left; apply decide_eq_false; intro e; rw [e] at hr1; exact hr1 rfl))) I_ (fun _ _ _ => trivial)
  ·
   simp at hr2
   have hsame := hr2
   refine v_ rfl (z_ (b_ rfl (h_ (h_ (c_ (a_ (g_ rfl) rfl (e_ (b_ rfl (R_ ?_)))))))))
   refine aI_ (ι := {y : Nat // y ≤ (Wk.ps v).length ∧ (Wk.ps v).take y = (Wk.ps w).take y}) (fun y => [(2, zp_ b1 0), (3, zp_ b2 0), (5, .int .i64 (y.1 : Int))]) (fun y => ((b2, .cells #[.slice (Wk.pad w) (List.length (Wk.ps w)) (Wk.pcap w), .slice (Cl.aad (Wk.cl w)) (List.length (Cl.atoms (Wk.cl w))) (Cl.acap (Wk.cl w)), .slice (Cl.fad (Wk.cl w)) (List.length (Cl.facts (Wk.cl w))) (Cl.fcap (Wk.cl w))] 50 (0, 0)) :: ((b1, .cells #[.slice (Wk.pad v) (List.length (Wk.ps v)) (Wk.pcap v), .slice (Cl.aad (Wk.cl v)) (List.length (Cl.atoms (Wk.cl v))) (Cl.acap (Wk.cl v)), .slice (Cl.fad (Wk.cl v)) (List.length (Cl.facts (Wk.cl v))) (Cl.fcap (Wk.cl v))] 50 (0, 0)) :: []))) (fun y => [aw_ (Wk.pad v) (List.flatMap Pc.cells (Wk.ps v)), aw_ (Cl.aad (Wk.cl v)) (List.flatMap aM_ (Cl.atoms (Wk.cl v))), aw_ (Cl.fad (Wk.cl v)) (List.flatMap Fc.cells (Cl.facts (Wk.cl v))), aw_ (Wk.pad w) (List.flatMap Pc.cells (Wk.ps w)), aw_ (Cl.aad (Wk.cl w)) (List.flatMap aM_ (Cl.atoms (Wk.cl w))), aw_ (Cl.fad (Wk.cl w)) (List.flatMap Fc.cells (Cl.facts (Wk.cl w)))]) (fun y => (Wk.ps v).length - y.1) ⟨(0 : Nat), by simp, by simp⟩ ⟨rfl, rfl, rfl, trivial⟩ (k_ i_ i_) (fun _ _ h => h) ?_
   rintro ⟨i, hi, he⟩
   dsimp only at hi he ⊢
   refine h_ (h_ (c_ (a_ (f_ rfl) rfl (a_ (m_ aS_ rfl rfl rfl ca_) rfl (a_ (u_ 1 da_ rfl rfl rfl) rfl (a_ (an_ G_ rfl) rfl (x_ (ay_ rfl rfl) rfl fun r3 hr3 => ?_)))))))
   refine e_ (b_ rfl ?_)
   cases r3
   ·
    replace hr3 := of_decide_eq_false hr3
    have hpe : (Wk.ps v) = (Wk.ps w) := by rwa [List.take_of_length_le (by omega), List.take_of_length_le (by omega)] at he
    refine v_ rfl (at_ rfl (b_ rfl (h_ (c_ (a_ (g_ rfl) rfl (e_ (b_ rfl (E_ ?_))))))))
    exact ar_ Tryz.results36 () (y_ rfl (by rw [decide_eq_true hpe, decide_eq_true hsame.1, decide_eq_true hsame.2]; rfl)) I_ (fun _ _ _ => trivial)
   ·
    replace hr3 := of_decide_eq_true hr3
    have hlx1 : i < List.length (Wk.ps v) := by omega
    obtain ⟨x1, hx1⟩ : ∃ e0, (Wk.ps v)[i]? = some e0 := ⟨_, List.getElem?_eq_getElem hlx1⟩
    have hmx1 : x1 ∈ (Wk.ps v) := List.mem_of_getElem? hx1
    have hlx2 : i < List.length (Wk.ps w) := by omega
    obtain ⟨x2, hx2⟩ : ∃ e0, (Wk.ps w)[i]? = some e0 := ⟨_, List.getElem?_eq_getElem hlx2⟩
    have hmx2 : x2 ∈ (Wk.ps w) := List.mem_of_getElem? hx2
    refine t_ rfl (z_ (b_ rfl (h_ (R_ (h_ ?_)))))
    refine aP_ (by kernel_rfl) ?_
    refine ae_ 0 [0, 1, 2, 3, 4, 5, 6, 7, 8, 9, 10] (by kernel_rfl) (fun _ a b => ⟨a, b⟩) (n_ rfl (m_ aS_ rfl rfl rfl ca_) rfl (n_ rfl (u_ 1 da_ rfl rfl rfl) rfl (n_ rfl (f_ rfl) rfl (n_ rfl (ab_ G_ M_ rfl rfl (fun v _ h => az_ (n := 10) Pc.cells_len (by decide) (by exact h.1) hx1) (by omega) (by first | omega | (simp; done))) rfl (n_ rfl (aT_ (ad := (Wk.pad v)) (us := Pc.cells x1) aH_ M_ rfl (fun v _ h => by exact h.1) (Pc.cells_len _) (af_ Pc.cells_len hx1)) rfl (n_ rfl (m_ aS_ rfl rfl rfl ca_) rfl (n_ rfl (u_ 0 da_ rfl rfl rfl) rfl (n_ rfl (f_ rfl) rfl (n_ rfl (ab_ G_ M_ rfl rfl (fun v _ h => az_ (n := 10) Pc.cells_len (by decide) (by exact h.2.2.2.1) hx2) (by omega) (by first | omega | (simp; done))) rfl ?_)))))))))
    refine n_ rfl (aT_ (ad := (Wk.pad w)) (us := Pc.cells x2) aH_ M_ rfl (fun v _ h => by exact h.2.2.2.1) (Pc.cells_len _) (af_ Pc.cells_len hx2)) rfl ?_
    refine cj_ rfl (nf_ (p := x1) (q := x2) rfl rfl) rfl fun r4 hr4 => ?_
    refine ad_ (aa_ (by kernel_rfl) (b_ rfl ?_))
    cases r4
    ·
     replace hr4 := of_decide_eq_false hr4
     refine v_ rfl (z_ (b_ rfl (c_ (a_ (f_ rfl) rfl (a_ (P_ rfl rfl rfl (ah_ (by omega) (by omega))) rfl (a_ (g_ rfl) rfl (e_ (w_ rfl ?_))))))))
     exact Z_ ⟨i + 1, hlx1, by rw [List.take_add_one, hx1, List.take_add_one, hx2, he]; simp_all⟩ (by dsimp only; omega) ⟨rfl, rfl, rfl, trivial⟩ (k_ i_ i_) (fun _ _ h => h)
    ·
     replace hr4 := of_decide_eq_true hr4
     refine t_ rfl (h_ (c_ (a_ (g_ rfl) rfl (e_ (b_ rfl (E_ ?_))))))
     exact ar_ Tryz.results36 () (y_ rfl (by symm; rw [Bool.and_eq_false_iff]; left; apply decide_eq_false; intro e; rw [e] at hx1; rw [hx1] at hx2; simp_all)) I_ (fun _ _ _ => trivial)
 ·
  replace hr1 := aW_ hr1
  refine r_ rfl rfl rfl rfl (r_ rfl rfl rfl rfl (r_ rfl rfl rfl rfl (r_ rfl rfl rfl rfl (r_ rfl rfl rfl rfl (r_ rfl rfl rfl rfl (a_ (F_ rfl rfl) rfl (e_ (b_ rfl (t_ rfl ?_)))))))))
  refine h_ (c_ (a_ (g_ rfl) rfl (e_ (b_ rfl (E_ ?_)))))
  exact ar_ Tryz.results36 () (y_ rfl (by symm; rw [Bool.and_eq_false_iff]; first | (left; apply decide_eq_false; intro e; rw [e] at *; exact absurd rfl (by assumption)) | (right; simp_all; done) | (left; apply decide_eq_false; intro e; rw [e] at hr1; exact hr1 rfl))) I_ (fun _ _ _ => trivial)
end Go.Proofs.YtpdbbglpbngeiaaGreatDoor
namespace Go.Proofs.YtpdbbglpbngeiaaGreatDoor
open Go Go.Sx Go.Proofs
attribute [local irreducible] Code.wp wpList wpAnyH
open Go.Vs
theorem dh_.sm {p : List Pc} {bu : Int} {w : Wk} {e : Int} (h : dh_ p bu w e) (hs : ∀ x ∈ p, x.sm) : ∀ x ∈ w.ps, x.sm := by
  obtain ⟨c, _, h1, h2⟩ := h
  by_cases he : e = 0
  · rw [(h1 he).1]; exact hs
  · rw [h2 he]; intro x hx; simp [Wk.no] at hx
theorem gY_ {p q : List Pc} (hp : bC_ p = 0) (hq : bC_ q = 0) (hl : p.length + q.length ≤ 16384) : bC_ (p ++ q) = 0 := by
  have h1 := (js_ hp).2
  have h2 := (js_ hq).2
  unfold bC_
  rw [if_neg (by rw [List.length_append]; omega), if_pos (by rw [List.all_append, h1, h2]; rfl)]
theorem eR_.run {w : Wk} {p : List Pc} {x : Wk} {new : List Fc} {e : Int} (h : eR_ w p 1073741824 x new e) (hc : bC_ p = 0) (hl : w.ps.length + p.length ≤ 16384) : dh_ (w.ps ++ p) 1073741824 x e ∧ new = if e = 0 then bP_ x.cl.facts w.cl.facts else [] := by
  unfold eR_ at h
  rw [if_neg (by simp [hc]), if_neg (by simp), if_neg (by omega)] at h
  exact h
theorem nP_ {old p q : List Pc} {w x y a b c : Wk} {n1 n2 n3 n4 n5 : List Fc} {h i k : Int} (hS : dh_ old 2000 w 0) (hx : eR_ w p 1073741824 x n1 0) (hy : eR_ w q 1073741824 y n2 0) (ha : eR_ x q 1073741824 a n3 h) (hb : eR_ y p 1073741824 b n4 i) (hc : eR_ w (p ++ q) 1073741824 c n5 k) (hl : old.length + p.length + q.length ≤ 16384) :
    h = i ∧ i = k ∧ (h = 0 → (a.cl.atoms = b.cl.atoms ∧ a.cl.facts = b.cl.facts) ∧ a.ps = c.ps ∧ a.cl.atoms = c.cl.atoms ∧ a.cl.facts = c.cl.facts) := by
  obtain ⟨s1, _, _⟩ := hS.good
  obtain ⟨x1, _, _, x4, _⟩ := hx.good
  obtain ⟨y1, _, _, y4, _⟩ := hy.good
  rw [s1] at x4 y4
  obtain ⟨xp, _, x5⟩ := x4.good
  obtain ⟨yp, _, y5⟩ := y4.good
  obtain ⟨a1, _⟩ := ha.run y1 (by rw [xp, List.length_append]; omega)
  obtain ⟨b1, _⟩ := hb.run x1 (by rw [yp, List.length_append]; omega)
  obtain ⟨c1, _⟩ := hc.run (gY_ x1 y1 (by omega)) (by rw [s1, List.length_append]; omega)
  rw [xp] at a1
  rw [yp] at b1
  rw [s1, ← List.append_assoc] at c1
  obtain ⟨ca, ha1, ha2, _⟩ := a1
  obtain ⟨cb, hb1, hb2, _⟩ := b1
  obtain ⟨cc, hc1, hc2, _⟩ := c1
  have k1 := gY_ x5.good.1 y1 (by rw [List.length_append]; omega)
  have k2 := gY_ y5.good.1 x1 (by rw [List.length_append]; omega)
  obtain ⟨e1, e2, e3⟩ := kh_ (fe_.of fun z hz => by simp only [List.mem_append] at hz ⊢; rcases hz with (hz | hz) | hz <;> simp [hz]) (fe_.of fun z hz => by simp only [List.mem_append] at hz ⊢; rcases hz with (hz | hz) | hz <;> simp [hz]) ha1 hb1 k1 k2 (by decide) (by decide)
  obtain ⟨f1, f2, f3⟩ := kg_ ha1 hc1
  refine ⟨e3, by rw [← e3, f3], fun h0 => ?_⟩
  obtain ⟨p1, p2, _⟩ := ha2 h0
  obtain ⟨q1, q2, _⟩ := hb2 (e3 ▸ h0)
  obtain ⟨r1, r2, _⟩ := hc2 (f3 ▸ h0)
  rw [p1, p2, q2, r1, r2]
  exact ⟨⟨e1, e2⟩, rfl, f1, f2⟩
end Go.Proofs.YtpdbbglpbngeiaaGreatDoor
namespace Go.Proofs.YtpdbbglpbngeiaaGreatDoor
open Go Go.Sx Go.Proofs
attribute [local irreducible] Code.wp wpList wpAnyH
open Go.Vs
set_option maxHeartbeats 2000000 in
theorem nK_ (old p qs : List Pc) (oad pad qad : Option Addr) (ocap pcap qcap : Nat) (hold1 : old.length ≤ ocap) (hold2 : ocap ≤ 1099511627744) (hold3 : oad = none → ocap = 0) (hold4 : ∀ x ∈ old, x.big) (hp1 : p.length ≤ pcap) (hp2 : pcap ≤ 1099511627744) (hp3 : pad = none → pcap = 0) (hp4 : ∀ x ∈ p, x.big) (hqs1 : qs.length ≤ qcap) (hqs2 : qcap ≤ 1099511627744) (hqs3 : qad = none → qcap = 0) (hqs4 : ∀ x ∈ qs, x.big) : Tri Tryz.prog 11 #[.slice oad (List.length old) ocap, .slice pad (List.length p) pcap, .slice qad (List.length qs) qcap] [] [aw_ oad (List.flatMap Pc.cells old), aw_ pad (List.flatMap Pc.cells p), aw_ qad (List.flatMap Pc.cells qs), gi_] (fun _ : Unit => .bool true) (fun _ => []) (fun _ => []) := by
 refine T_ Tryz.func11 rfl rfl Tryz.ntmps11 rfl fun v0 => ?_
 refine h_ (c_ (a_ (g_ rfl) rfl (e_ (b_ rfl (h_ (h_ (c_ (W_ (on_) rfl I_ (fun v _ h => by exact ⟨h.2.2.2.1, trivial⟩) rfl fun _ => ?_))))))))
 refine a_ (cb_ rfl) rfl (e_ (b_ rfl (v_ rfl (z_ (b_ rfl (h_ (h_ (c_ (a_ (f_ rfl) rfl ?_)))))))))
 refine W_ (kE_ old oad ocap (by omega) hold4) rfl I_ (fun v _ h => by exact ⟨h.1, trivial⟩) rfl fun ⟨sbold, hsbold⟩ => ?_
 dsimp only
 refine a_ (cb_ rfl) rfl (a_ (f_ rfl) rfl ?_)
 cases sbold
 ·
  refine r_ rfl rfl rfl rfl (r_ rfl rfl rfl rfl (r_ rfl rfl rfl rfl (a_ (F_ rfl rfl) rfl (a_ (f_ rfl) rfl (r_ rfl rfl rfl rfl (r_ rfl rfl rfl rfl (r_ rfl rfl rfl rfl (a_ (F_ rfl rfl) rfl (a_ (f_ rfl) rfl ?_)))))))))
  refine r_ rfl rfl rfl rfl (r_ rfl rfl rfl rfl (r_ rfl rfl rfl rfl (r_ rfl rfl rfl rfl (r_ rfl rfl rfl rfl (r_ rfl rfl rfl rfl (a_ (F_ rfl rfl) rfl (e_ (b_ rfl (t_ rfl ?_)))))))))
  refine h_ (c_ (a_ (g_ rfl) rfl (e_ (b_ rfl (E_ ?_)))))
  exact ar_ dA_ () rfl I_ (fun _ _ _ => trivial)
 ·
  obtain ⟨hold5, hold6⟩ := hsbold rfl
  refine p_ rfl rfl (a_ (f_ rfl) rfl (p_ rfl rfl (W_ (kE_ p pad pcap (by omega) hp4) rfl I_ (fun v _ h => by exact ⟨h.2.1, trivial⟩) rfl fun ⟨sbp, hsbp⟩ => ?_)))
  dsimp only
  refine p_ rfl rfl (a_ (cb_ rfl) rfl (a_ (C_ rfl rfl) rfl (a_ (f_ rfl) rfl ?_)))
  cases sbp
  ·
   refine r_ rfl rfl rfl rfl (r_ rfl rfl rfl rfl (r_ rfl rfl rfl rfl (a_ (F_ rfl rfl) rfl (a_ (f_ rfl) rfl (r_ rfl rfl rfl rfl (r_ rfl rfl rfl rfl (r_ rfl rfl rfl rfl (r_ rfl rfl rfl rfl (r_ rfl rfl rfl rfl ?_)))))))))
   refine r_ rfl rfl rfl rfl (a_ (F_ rfl rfl) rfl (e_ (b_ rfl (t_ rfl (h_ (c_ (a_ (g_ rfl) rfl (e_ (b_ rfl ?_)))))))))
   refine E_ ?_
   exact ar_ dA_ () rfl I_ (fun _ _ _ => trivial)
  ·
   obtain ⟨hp5, hp6⟩ := hsbp rfl
   refine p_ rfl rfl (a_ (f_ rfl) rfl (p_ rfl rfl (W_ (kE_ qs qad qcap (by omega) hqs4) rfl I_ (fun v _ h => by exact ⟨h.2.2.1, trivial⟩) rfl fun ⟨sbqs, hsbqs⟩ => ?_)))
   dsimp only
   refine p_ rfl rfl (a_ (cb_ rfl) rfl (a_ (C_ rfl rfl) rfl (a_ (f_ rfl) rfl ?_)))
   cases sbqs
   ·
    refine r_ rfl rfl rfl rfl (r_ rfl rfl rfl rfl (r_ rfl rfl rfl rfl (r_ rfl rfl rfl rfl (r_ rfl rfl rfl rfl (r_ rfl rfl rfl rfl (a_ (F_ rfl rfl) rfl (e_ (b_ rfl (t_ rfl ?_)))))))))
    refine h_ (c_ (a_ (g_ rfl) rfl (e_ (b_ rfl (E_ ?_)))))
    exact ar_ dA_ () rfl I_ (fun _ _ _ => trivial)
   ·
    obtain ⟨hqs5, hqs6⟩ := hsbqs rfl
    refine p_ rfl rfl (a_ (f_ rfl) rfl (p_ rfl rfl (a_ (f_ rfl) rfl (p_ rfl rfl (a_ (f_ rfl) rfl (p_ rfl rfl (aK_ dl_ ca_ co_ rfl rfl rfl rfl rfl rfl fun b1 => ?_)))))))
    refine bx_ (List.flatMap PL.cells [(PL.mk old oad ocap), (PL.mk p pad pcap), (PL.mk qs qad qcap)]) i_ rfl ?_
    refine p_ rfl rfl ?_
    refine W_ (nA_ [(PL.mk old oad ocap), (PL.mk p pad pcap), (PL.mk qs qad qcap)] (some ⟨b1, 0, none⟩) 3 (fun y hy => by simp only [List.mem_cons, List.not_mem_nil, or_false] at hy; rcases hy with rfl | rfl | rfl; exact ⟨hold1, hold3, by dsimp only; omega⟩; exact ⟨hp1, hp3, by dsimp only; omega⟩; exact ⟨hqs1, hqs3, by dsimp only; omega⟩) (by simp) (fun y hy => by simp only [dL_, List.flatMap_cons, List.flatMap_nil, List.append_nil, List.mem_append] at hy; rcases hy with hy | hy | hy; exact hold6 y hy; exact hp6 y hy; exact hqs6 y hy) (by simp only [dL_, List.flatMap_cons, List.flatMap_nil, List.append_nil, List.length_append]; omega)) rfl I_ (fun v _ h => by refine ⟨h.1, fun y hy => ?_, trivial⟩; simp only [List.mem_cons, List.not_mem_nil, or_false] at hy; rcases hy with rfl | rfl | rfl; exact h.2.1; exact h.2.2.1; exact h.2.2.2.1) rfl fun lb => ?_
    refine p_ rfl rfl (a_ (cb_ rfl) rfl (a_ (C_ rfl rfl) rfl (e_ (b_ rfl ?_))))
    cases lb
    ·
     refine t_ rfl (h_ (c_ (a_ (g_ rfl) rfl (e_ (b_ rfl (E_ ?_))))))
     exact ar_ dA_ () rfl I_ (fun _ _ _ => trivial)
    ·
     refine v_ rfl (z_ (b_ rfl (h_ (c_ (a_ (f_ rfl) rfl (W_ (hm_ old oad ocap 2000 hold6 hold1 (by omega)) rfl I_ (fun v _ h => by exact ⟨h.2.1, h.2.2.2.2.1, trivial⟩) rfl fun ⟨⟨w, e0⟩, hS⟩ => ?_))))))
     dsimp only
     dsimp only at hS
     have hSk := hS.ok
     have hSl := hS.len
     have hSm := hS.sm hold6
     refine a_ (f_ rfl) rfl (a_ (Y_ rfl rfl) rfl (a_ (Y_ rfl rfl) rfl (ao_ by_ rfl fun b2 => ?_)))
     refine S_ 0 ag_ rfl rfl rfl rfl rfl rfl (a_ (g_ rfl) rfl (e_ (b_ rfl (h_ (h_ (c_ (a_ (f_ rfl) rfl (x_ (bL_ rfl rfl) rfl fun r1 hr1 => ?_))))))))
     refine e_ (b_ rfl ?_)
     cases r1
     ·
      replace hr1 := aX_ hr1
      refine v_ rfl (z_ (b_ rfl (h_ ?_)))
      have he0 : e0 = 0 := by assumption
      subst he0
      obtain ⟨hw1, hw2, hw3⟩ := hS.good
      refine c_ (a_ (X_ 0 bf_ ag_ rfl rfl rfl) rfl (a_ (f_ rfl) rfl (W_ (gP_ w p pad pcap 1073741824 hSm hSk.al hSk.az (by omega) (by omega) hp6 hp1 hp3 (by omega)) rfl I_ (fun v _ h => by exact ⟨h.1, h.2.1, h.2.2.1, h.2.2.2.2.2.1, h.2.2.2.2.2.2.2.1, trivial⟩) rfl fun ⟨⟨wx, n1, n1ad, n1cp, ef⟩, hx, hxk⟩ => ?_)))
      dsimp only
      dsimp only at hx hxk
      have hxo := hx.ok
      refine a_ (f_ rfl) rfl (a_ (Y_ rfl rfl) rfl (a_ (Y_ rfl rfl) rfl (a_ (Y_ rfl rfl) rfl (ao_ by_ rfl fun b3 => ?_))))
      refine S_ 0 ag_ rfl rfl rfl rfl rfl rfl (a_ (g_ rfl) rfl (a_ (g_ rfl) rfl (e_ (b_ rfl (h_ (c_ (a_ (X_ 1 bf_ ag_ rfl rfl rfl) rfl (a_ (f_ rfl) rfl (W_ (gP_ w qs qad qcap 1073741824 hSm hSk.al hSk.az (by omega) (by omega) hqs6 hqs1 hqs3 (by omega)) rfl I_ (fun v _ h => by exact ⟨h.2.2.2.2.1, h.2.2.2.2.2.1, h.2.2.2.2.2.2.1, h.2.2.2.2.2.2.2.2.2.2.1, h.2.2.2.2.2.2.2.2.2.2.2.1, trivial⟩) rfl fun ⟨⟨wy, n2, n2ad, n2cp, eg⟩, hy, hyk⟩ => ?_)))))))))
      dsimp only
      dsimp only at hy hyk
      have hyo := hy.ok
      refine a_ (f_ rfl) rfl (a_ (Y_ rfl rfl) rfl (a_ (Y_ rfl rfl) rfl (a_ (Y_ rfl rfl) rfl (ao_ by_ rfl fun b4 => ?_))))
      refine S_ 0 ag_ rfl rfl rfl rfl rfl rfl (a_ (g_ rfl) rfl (a_ (g_ rfl) rfl (e_ (b_ rfl (h_ (h_ (c_ (a_ (f_ rfl) rfl (x_ (bL_ rfl rfl) rfl fun r2 hr2 => ?_)))))))))
      refine a_ (f_ rfl) rfl ?_
      cases r2
      ·
       replace hr2 := aX_ hr2
       refine p_ rfl rfl (a_ (f_ rfl) rfl (p_ rfl rfl (x_ (bL_ rfl rfl) rfl fun r3 hr3 => ?_)))
       refine a_ (C_ rfl rfl) rfl (e_ (b_ rfl ?_))
       cases r3
       ·
        replace hr3 := aX_ hr3
        refine v_ rfl (z_ (b_ rfl (h_ ?_)))
        have hef : ef = 0 := by assumption
        subst hef
        have heg : eg = 0 := by assumption
        subst heg
        have hxg := hx.good.2.2.2.1
        rw [hw1] at hxg
        have hxp : wx.ps = old ++ p := hxg.good.1
        have hxl : wx.ps.length = old.length + p.length := by rw [hxp, List.length_append]
        have hwxm : ∀ z ∈ wx.ps, z.sm := fun z hz => by rw [hxp] at hz; rcases List.mem_append.1 hz with hz | hz; exact hold6 z hz; exact hp6 z hz
        have hyg := hy.good.2.2.2.1
        rw [hw1] at hyg
        have hyp : wy.ps = old ++ qs := hyg.good.1
        have hyl : wy.ps.length = old.length + qs.length := by rw [hyp, List.length_append]
        have hwym : ∀ z ∈ wy.ps, z.sm := fun z hz => by rw [hyp] at hz; rcases List.mem_append.1 hz with hz | hz; exact hold6 z hz; exact hqs6 z hz
        refine c_ (a_ (X_ 1 bf_ ag_ rfl rfl rfl) rfl (a_ (f_ rfl) rfl (W_ (gP_ wx qs qad qcap 1073741824 hwxm hxo.1.al hxo.1.az (by omega) (by omega) hqs6 hqs1 hqs3 (by omega)) rfl I_ (fun v _ h => by exact ⟨h.2.2.2.2.1, h.2.2.2.2.2.1, h.2.2.2.2.2.2.1, h.2.2.2.2.2.2.2.2.2.2.2.2.2.2.1, h.2.2.2.2.2.2.2.2.2.2.2.2.2.2.2.1, trivial⟩) rfl fun ⟨⟨xa, n3, n3ad, n3cp, eh⟩, ha, hak⟩ => ?_)))
        dsimp only
        dsimp only at ha hak
        have hao := ha.ok
        refine a_ (f_ rfl) rfl (a_ (Y_ rfl rfl) rfl (a_ (Y_ rfl rfl) rfl (a_ (Y_ rfl rfl) rfl (ao_ by_ rfl fun b5 => ?_))))
        refine S_ 0 ag_ rfl rfl rfl rfl rfl rfl (a_ (g_ rfl) rfl (a_ (g_ rfl) rfl (e_ (b_ rfl (h_ (c_ (a_ (X_ 1 bf_ ag_ rfl rfl rfl) rfl (a_ (f_ rfl) rfl (W_ (gP_ wy p pad pcap 1073741824 hwym hyo.1.al hyo.1.az (by omega) (by omega) hp6 hp1 hp3 (by omega)) rfl I_ (fun v _ h => by exact ⟨h.2.2.2.2.1, h.2.2.2.2.2.1, h.2.2.2.2.2.2.1, h.2.2.2.2.2.2.2.2.2.2.2.2.2.2.2.2.2.1, h.2.2.2.2.2.2.2.2.2.2.2.2.2.2.2.2.2.2.2.1, trivial⟩) rfl fun ⟨⟨xb, n4, n4ad, n4cp, ei⟩, hb, hbk⟩ => ?_)))))))))
        dsimp only
        dsimp only at hb hbk
        have hbo := hb.ok
        refine a_ (f_ rfl) rfl (a_ (Y_ rfl rfl) rfl (a_ (Y_ rfl rfl) rfl (a_ (Y_ rfl rfl) rfl (ao_ by_ rfl fun b6 => ?_))))
        refine S_ 0 ag_ rfl rfl rfl rfl rfl rfl (a_ (g_ rfl) rfl (a_ (g_ rfl) rfl (e_ (b_ rfl (h_ ?_)))))
        refine pH_ (ι := {y : Nat × Wk × List Fc × Int // eR_ w (p ++ qs) 1073741824 y.2.1 y.2.2.1 y.2.2.2}) (fun y => [(6, .bool false), (15, zp_ b5 0), (17, .int .i64 eh), (18, zp_ b6 0), (20, .int .i64 ei), (21, zp_ y.1.1 0), (23, .int .i64 y.1.2.2.2)]) (fun y => ((b2, .cells #[.slice (Wk.pad w) (List.length (Wk.ps w)) (Wk.pcap w), .slice (Cl.aad (Wk.cl w)) (List.length (Cl.atoms (Wk.cl w))) (Cl.acap (Wk.cl w)), .slice (Cl.fad (Wk.cl w)) (List.length (Cl.facts (Wk.cl w))) (Cl.fcap (Wk.cl w))] 50 (0, 0)) :: ((b3, .cells #[.slice (Wk.pad wx) (List.length (Wk.ps wx)) (Wk.pcap wx), .slice (Cl.aad (Wk.cl wx)) (List.length (Cl.atoms (Wk.cl wx))) (Cl.acap (Wk.cl wx)), .slice (Cl.fad (Wk.cl wx)) (List.length (Cl.facts (Wk.cl wx))) (Cl.fcap (Wk.cl wx))] 50 (0, 0)) :: ((b4, .cells #[.slice (Wk.pad wy) (List.length (Wk.ps wy)) (Wk.pcap wy), .slice (Cl.aad (Wk.cl wy)) (List.length (Cl.atoms (Wk.cl wy))) (Cl.acap (Wk.cl wy)), .slice (Cl.fad (Wk.cl wy)) (List.length (Cl.facts (Wk.cl wy))) (Cl.fcap (Wk.cl wy))] 50 (0, 0)) :: ((b5, .cells #[.slice (Wk.pad xa) (List.length (Wk.ps xa)) (Wk.pcap xa), .slice (Cl.aad (Wk.cl xa)) (List.length (Cl.atoms (Wk.cl xa))) (Cl.acap (Wk.cl xa)), .slice (Cl.fad (Wk.cl xa)) (List.length (Cl.facts (Wk.cl xa))) (Cl.fcap (Wk.cl xa))] 50 (0, 0)) :: ((b6, .cells #[.slice (Wk.pad xb) (List.length (Wk.ps xb)) (Wk.pcap xb), .slice (Cl.aad (Wk.cl xb)) (List.length (Cl.atoms (Wk.cl xb))) (Cl.acap (Wk.cl xb)), .slice (Cl.fad (Wk.cl xb)) (List.length (Cl.facts (Wk.cl xb))) (Cl.fcap (Wk.cl xb))] 50 (0, 0)) :: ((y.1.1, .cells #[.slice (Wk.pad y.1.2.1) (List.length (Wk.ps y.1.2.1)) (Wk.pcap y.1.2.1), .slice (Cl.aad (Wk.cl y.1.2.1)) (List.length (Cl.atoms (Wk.cl y.1.2.1))) (Cl.acap (Wk.cl y.1.2.1)), .slice (Cl.fad (Wk.cl y.1.2.1)) (List.length (Cl.facts (Wk.cl y.1.2.1))) (Cl.fcap (Wk.cl y.1.2.1))] 50 (0, 0)) :: []))))))) (fun y => [aw_ (Cl.aad (Wk.cl y.1.2.1)) (List.flatMap aM_ (Cl.atoms (Wk.cl y.1.2.1))), aw_ (Cl.fad (Wk.cl y.1.2.1)) (List.flatMap Fc.cells (Cl.facts (Wk.cl y.1.2.1))), aw_ (Wk.pad y.1.2.1) (List.flatMap Pc.cells (Wk.ps y.1.2.1)), aw_ (Wk.pad xb) (List.flatMap Pc.cells (Wk.ps xb)), aw_ (Cl.aad (Wk.cl xb)) (List.flatMap aM_ (Cl.atoms (Wk.cl xb))), aw_ (Cl.fad (Wk.cl xb)) (List.flatMap Fc.cells (Cl.facts (Wk.cl xb))), aw_ n4ad (List.flatMap Fc.cells n4), aw_ (Wk.pad xa) (List.flatMap Pc.cells (Wk.ps xa)), aw_ (Cl.aad (Wk.cl xa)) (List.flatMap aM_ (Cl.atoms (Wk.cl xa))), aw_ (Cl.fad (Wk.cl xa)) (List.flatMap Fc.cells (Cl.facts (Wk.cl xa))), aw_ n3ad (List.flatMap Fc.cells n3), aw_ (Wk.pad wy) (List.flatMap Pc.cells (Wk.ps wy)), aw_ (Cl.aad (Wk.cl wy)) (List.flatMap aM_ (Cl.atoms (Wk.cl wy))), aw_ (Cl.fad (Wk.cl wy)) (List.flatMap Fc.cells (Cl.facts (Wk.cl wy))), aw_ n2ad (List.flatMap Fc.cells n2), aw_ (Wk.pad wx) (List.flatMap Pc.cells (Wk.ps wx)), aw_ (Cl.aad (Wk.cl wx)) (List.flatMap aM_ (Cl.atoms (Wk.cl wx))), aw_ (Cl.fad (Wk.cl wx)) (List.flatMap Fc.cells (Cl.facts (Wk.cl wx))), aw_ n1ad (List.flatMap Fc.cells n1), aw_ (Wk.pad w) (List.flatMap Pc.cells (Wk.ps w)), aw_ (Cl.aad (Wk.cl w)) (List.flatMap aM_ (Cl.atoms (Wk.cl w))), aw_ (Cl.fad (Wk.cl w)) (List.flatMap Fc.cells (Cl.facts (Wk.cl w))), aw_ (some ⟨b1, 0, none⟩) (List.flatMap PL.cells [(PL.mk old oad ocap), (PL.mk p pad pcap), (PL.mk qs qad qcap)]), aw_ oad (List.flatMap Pc.cells old), aw_ pad (List.flatMap Pc.cells p), aw_ qad (List.flatMap Pc.cells qs), gi_]) ?_ ?_
        ·
         refine aR_ ((b6, .cells #[.slice (Wk.pad xb) (List.length (Wk.ps xb)) (Wk.pcap xb), .slice (Cl.aad (Wk.cl xb)) (List.length (Cl.atoms (Wk.cl xb))) (Cl.acap (Wk.cl xb)), .slice (Cl.fad (Wk.cl xb)) (List.length (Cl.facts (Wk.cl xb))) (Cl.fcap (Wk.cl xb))] 50 (0, 0)) :: ((b5, .cells #[.slice (Wk.pad xa) (List.length (Wk.ps xa)) (Wk.pcap xa), .slice (Cl.aad (Wk.cl xa)) (List.length (Cl.atoms (Wk.cl xa))) (Cl.acap (Wk.cl xa)), .slice (Cl.fad (Wk.cl xa)) (List.length (Cl.facts (Wk.cl xa))) (Cl.fcap (Wk.cl xa))] 50 (0, 0)) :: ((b4, .cells #[.slice (Wk.pad wy) (List.length (Wk.ps wy)) (Wk.pcap wy), .slice (Cl.aad (Wk.cl wy)) (List.length (Cl.atoms (Wk.cl wy))) (Cl.acap (Wk.cl wy)), .slice (Cl.fad (Wk.cl wy)) (List.length (Cl.facts (Wk.cl wy))) (Cl.fcap (Wk.cl wy))] 50 (0, 0)) :: ((b3, .cells #[.slice (Wk.pad wx) (List.length (Wk.ps wx)) (Wk.pcap wx), .slice (Cl.aad (Wk.cl wx)) (List.length (Cl.atoms (Wk.cl wx))) (Cl.acap (Wk.cl wx)), .slice (Cl.fad (Wk.cl wx)) (List.length (Cl.facts (Wk.cl wx))) (Cl.fcap (Wk.cl wx))] 50 (0, 0)) :: ((b2, .cells #[.slice (Wk.pad w) (List.length (Wk.ps w)) (Wk.pcap w), .slice (Cl.aad (Wk.cl w)) (List.length (Cl.atoms (Wk.cl w))) (Cl.acap (Wk.cl w)), .slice (Cl.fad (Wk.cl w)) (List.length (Cl.facts (Wk.cl w))) (Cl.fcap (Wk.cl w))] 50 (0, 0)) :: []))))) (by kernel_rfl) ?_
         refine ae_ 12 [0, 2, 4] (by kernel_rfl) (fun _ a b => ⟨a, b⟩) (n_ rfl (X_ 4 bf_ ag_ rfl rfl rfl) rfl (n_ rfl (f_ rfl) rfl (n_ rfl (f_ rfl) rfl (ad_ ?_))))
         refine ei_ 1 11 rfl rfl (by kernel_rfl) ?_ ?_
         ·
          refine cJ_ G_ M_ rfl fun b7 => ?_
          refine ak_ i_ (e_ (w_ rfl (K_ (fun _ a b => ⟨Vw.sat.sub (a.perm (k_ (s_ i_) (k_ (s_ i_) (k_ (s_ i_) (k_ (s_ i_) bj_))))), b⟩) ?_)))
          refine ei_ 3 11 rfl rfl (by kernel_rfl) ?_ ?_
          ·
           refine aB_ (news := List.flatMap Pc.cells p) eD_ (dw_ b7 47 10) rfl rfl hp3 hp1 A_ (by rw [bg_ Pc.cells 10 Pc.cells_len]) (fun v _ h => by exact h.2.2.2.2.2.2.2.2.2.2.2.2.2.2.2.2.2.2.2.2.2.1) (fun u hu => aG_ Pc.cells_one hu) (by simp only [maxLen]; (first | omega | ((try simp only [List.length_append, List.length_cons, List.length_nil]); omega))) (by (first | omega | ((try simp only [List.length_append, List.length_cons, List.length_nil]); omega))) rfl fun sv1 Hr1 hr1 => ?_
           refine ak_ List.perm_append_comm ?_
           have hq1 : aO_ 47 10 sv1 (List.length (([] : List Pc) ++ p)) (List.flatMap Pc.cells (([] : List Pc) ++ p)) Hr1 := by rw [List.length_append, List.flatMap_append]; exact hr1
           refine e_ (w_ rfl (K_ (fun _ a b => ⟨Vw.sat.sub (a.perm (k_ i_ (k_ i_ (k_ i_ (k_ i_ i_))))), b⟩) ?_))
           refine ei_ 5 11 rfl rfl (by kernel_rfl) ?_ ?_
           ·
            refine aB_ (news := List.flatMap Pc.cells qs) eD_ hq1 rfl rfl hqs3 hqs1 (d_ (d_ (d_ (d_ Q_)))) (by rw [bg_ Pc.cells 10 Pc.cells_len]) (fun v _ h => by exact h.2.2.2.2.2.2.2.2.2.2.2.2.2.2.2.2.2.2.2.2.2.2.1) (fun u hu => aG_ Pc.cells_one hu) (by simp only [maxLen]; (first | omega | ((try simp only [List.length_append, List.length_cons, List.length_nil]); omega))) (by (first | omega | ((try simp only [List.length_append, List.length_cons, List.length_nil]); omega))) rfl fun sv2 Hr2 hr2 => ?_
            refine ak_ List.perm_append_comm ?_
            have hq2 : aO_ 47 10 sv2 (List.length ((([] : List Pc) ++ p) ++ qs)) (List.flatMap Pc.cells ((([] : List Pc) ++ p) ++ qs)) Hr2 := by rw [List.length_append, List.flatMap_append]; exact hr2
            refine e_ (w_ rfl (K_ (fun _ a b => ⟨Vw.sat.sub (a.perm (k_ i_ (k_ i_ (k_ i_ (k_ i_ i_))))), b⟩) ?_))
            refine ei_ 6 11 rfl rfl (by kernel_rfl) ?_ ?_
            ·
             refine bi_ hq2 (d_ (d_ (d_ (d_ Q_)))) fun tad tcp htad hctad hmtad hztad => ?_
             subst htad
             refine W_ (gP_ w ((([] : List Pc) ++ p) ++ qs) tad tcp 1073741824 hSm hSk.al hSk.az (by omega) (by omega) (fun y hy => by simp only [List.nil_append, List.mem_append] at hy; rcases hy with hy | hy; exact hp6 y hy; exact hqs6 y hy) hctad hztad (by simp only [List.length_append, List.length_nil]; omega)) rfl I_ (fun v _ h => by exact ⟨h.2.2.2.2.2.2.2.2.2.2.2.2.2.2.2.2.2.1, h.2.2.2.2.2.2.2.2.2.2.2.2.2.2.2.2.2.2.1, h.2.2.2.2.2.2.2.2.2.2.2.2.2.2.2.2.2.2.2.1, h.1, h.2.2.2.2.2.2.2.2.2.2.2.2.2.2.2.2.2.2.2.2.2.2.2.2.1, trivial⟩) rfl fun ⟨⟨xc, n5, n5ad, n5cp, ek⟩, hc, hck⟩ => ?_
             dsimp only
             dsimp only at hc hck
             have hco := hc.ok
             rw [List.nil_append] at hc
             refine e_ (w_ rfl (K_ (fun _ a b => ⟨a, b.2.2.2.2.2⟩) (ae_ 4 [7, 8, 9, 10] (by kernel_rfl) (fun _ a b => ⟨a, b.2.2.2.2.2⟩) (n_ rfl (f_ rfl) rfl (n_ rfl (Y_ rfl rfl) rfl (n_ rfl (Y_ rfl rfl) rfl (n_ rfl (Y_ rfl rfl) rfl (ad_ (U_ 11 rfl (by kernel_rfl) ?_)))))))))
             refine ao_ by_ rfl fun b8 => ?_
             refine e_ (w_ rfl (K_ (fun _ a b => ⟨a.tail, b.2.2.2.2.2⟩) (U_ 12 rfl (by kernel_rfl) (S_ 0 ag_ rfl rfl rfl rfl rfl rfl (e_ (w_ rfl (K_ (fun _ a b => ⟨a.tail, b.2.2.2.2.2⟩) (ae_ 0 [13, 14] (by kernel_rfl) (fun _ a b => ⟨a.tail, b.2.2.2.2.2⟩) (n_ rfl (g_ rfl) rfl ?_)))))))))
             refine n_ rfl (g_ rfl) rfl (ad_ (aa_ (by kernel_rfl) (bq_ rfl ?_)))
             exact gp_ ⟨(b8, xc, n5, ek), hc⟩ ⟨rfl, rfl, rfl, rfl, rfl, rfl, rfl, trivial⟩ (k_ (d_ (d_ (d_ (d_ (d_ i_))))) (k_ (d_ (d_ (d_ (d_ i_)))) (k_ (d_ (d_ (d_ i_))) (k_ (d_ (d_ i_)) (k_ (d_ i_) i_))))) (fun v _ h => by exact ⟨h.2.1, h.2.2.1, h.1, h.2.2.2.2.2.1, h.2.2.2.2.2.2.1, h.2.2.2.2.2.2.2.1, h.2.2.2.2.2.2.2.2.1, h.2.2.2.2.2.2.2.2.2.1, h.2.2.2.2.2.2.2.2.2.2.1, h.2.2.2.2.2.2.2.2.2.2.2.1, h.2.2.2.2.2.2.2.2.2.2.2.2.1, h.2.2.2.2.2.2.2.2.2.2.2.2.2.1, h.2.2.2.2.2.2.2.2.2.2.2.2.2.2.1, h.2.2.2.2.2.2.2.2.2.2.2.2.2.2.2.1, h.2.2.2.2.2.2.2.2.2.2.2.2.2.2.2.2.1, h.2.2.2.2.2.2.2.2.2.2.2.2.2.2.2.2.2.1, h.2.2.2.2.2.2.2.2.2.2.2.2.2.2.2.2.2.2.1, h.2.2.2.2.2.2.2.2.2.2.2.2.2.2.2.2.2.2.2.1, h.2.2.2.2.2.2.2.2.2.2.2.2.2.2.2.2.2.2.2.2.1, h.2.2.2.2.2.2.2.2.2.2.2.2.2.2.2.2.2.2.2.2.2.1, h.2.2.2.2.2.2.2.2.2.2.2.2.2.2.2.2.2.2.2.2.2.2.1, h.2.2.2.2.2.2.2.2.2.2.2.2.2.2.2.2.2.2.2.2.2.2.2.1, h.2.2.2.2.2.2.2.2.2.2.2.2.2.2.2.2.2.2.2.2.2.2.2.2.1, h.2.2.2.2.2.2.2.2.2.2.2.2.2.2.2.2.2.2.2.2.2.2.2.2.2.1, h.2.2.2.2.2.2.2.2.2.2.2.2.2.2.2.2.2.2.2.2.2.2.2.2.2.2.1, h.2.2.2.2.2.2.2.2.2.2.2.2.2.2.2.2.2.2.2.2.2.2.2.2.2.2.2.1, h.2.2.2.2.2.2.2.2.2.2.2.2.2.2.2.2.2.2.2.2.2.2.2.2.2.2.2.2.1, trivial⟩)
            ·
             refine ao_ by_ rfl fun b9 => ?_
             refine e_ (w_ rfl (K_ (fun _ a b => ⟨Vw.sat.sub (a.perm (k_ (d_ i_) (k_ (d_ i_) (k_ (d_ i_) (k_ (d_ i_) (d_ i_)))))), b⟩) (U_ 6 rfl (by kernel_rfl) (bi_ hq2 (d_ (d_ (d_ (d_ (d_ Q_))))) fun tad tcp htad hctad hmtad hztad => ?_))))
             subst htad
             refine W_ (gP_ w ((([] : List Pc) ++ p) ++ qs) tad tcp 1073741824 hSm hSk.al hSk.az (by omega) (by omega) (fun y hy => by simp only [List.nil_append, List.mem_append] at hy; rcases hy with hy | hy; exact hp6 y hy; exact hqs6 y hy) hctad hztad (by simp only [List.length_append, List.length_nil]; omega)) rfl I_ (fun v _ h => by exact ⟨h.2.2.2.2.2.2.2.2.2.2.2.2.2.2.2.2.2.1, h.2.2.2.2.2.2.2.2.2.2.2.2.2.2.2.2.2.2.1, h.2.2.2.2.2.2.2.2.2.2.2.2.2.2.2.2.2.2.2.1, h.1, h.2.2.2.2.2.2.2.2.2.2.2.2.2.2.2.2.2.2.2.2.2.2.2.2.1, trivial⟩) rfl fun ⟨⟨xc, n5, n5ad, n5cp, ek⟩, hc, hck⟩ => ?_
             dsimp only
             dsimp only at hc hck
             have hco := hc.ok
             rw [List.nil_append] at hc
             refine e_ (w_ rfl (K_ (fun _ a b => ⟨a.tail, b.2.2.2.2.2⟩) (ae_ 3 [7, 8, 9, 10] (by kernel_rfl) (fun _ a b => ⟨a.tail, b.2.2.2.2.2⟩) (n_ rfl (f_ rfl) rfl (n_ rfl (Y_ rfl rfl) rfl (n_ rfl (Y_ rfl rfl) rfl (n_ rfl (Y_ rfl rfl) rfl (ad_ (U_ 12 rfl (by kernel_rfl) ?_)))))))))
             refine S_ 0 ag_ rfl rfl rfl rfl rfl rfl (e_ (w_ rfl (K_ (fun _ a b => ⟨a.tail, b.2.2.2.2.2⟩) (ae_ 0 [13, 14] (by kernel_rfl) (fun _ a b => ⟨a.tail, b.2.2.2.2.2⟩) (n_ rfl (g_ rfl) rfl (n_ rfl (g_ rfl) rfl (ad_ (aa_ (by kernel_rfl) (bq_ rfl ?_)))))))))
             exact gp_ ⟨(b9, xc, n5, ek), hc⟩ ⟨rfl, rfl, rfl, rfl, rfl, rfl, rfl, trivial⟩ (k_ (d_ (d_ (d_ (d_ (d_ i_))))) (k_ (d_ (d_ (d_ (d_ i_)))) (k_ (d_ (d_ (d_ i_))) (k_ (d_ (d_ i_)) (k_ (d_ i_) i_))))) (fun v _ h => by exact ⟨h.2.1, h.2.2.1, h.1, h.2.2.2.2.2.1, h.2.2.2.2.2.2.1, h.2.2.2.2.2.2.2.1, h.2.2.2.2.2.2.2.2.1, h.2.2.2.2.2.2.2.2.2.1, h.2.2.2.2.2.2.2.2.2.2.1, h.2.2.2.2.2.2.2.2.2.2.2.1, h.2.2.2.2.2.2.2.2.2.2.2.2.1, h.2.2.2.2.2.2.2.2.2.2.2.2.2.1, h.2.2.2.2.2.2.2.2.2.2.2.2.2.2.1, h.2.2.2.2.2.2.2.2.2.2.2.2.2.2.2.1, h.2.2.2.2.2.2.2.2.2.2.2.2.2.2.2.2.1, h.2.2.2.2.2.2.2.2.2.2.2.2.2.2.2.2.2.1, h.2.2.2.2.2.2.2.2.2.2.2.2.2.2.2.2.2.2.1, h.2.2.2.2.2.2.2.2.2.2.2.2.2.2.2.2.2.2.2.1, h.2.2.2.2.2.2.2.2.2.2.2.2.2.2.2.2.2.2.2.2.1, h.2.2.2.2.2.2.2.2.2.2.2.2.2.2.2.2.2.2.2.2.2.1, h.2.2.2.2.2.2.2.2.2.2.2.2.2.2.2.2.2.2.2.2.2.2.1, h.2.2.2.2.2.2.2.2.2.2.2.2.2.2.2.2.2.2.2.2.2.2.2.1, h.2.2.2.2.2.2.2.2.2.2.2.2.2.2.2.2.2.2.2.2.2.2.2.2.1, h.2.2.2.2.2.2.2.2.2.2.2.2.2.2.2.2.2.2.2.2.2.2.2.2.2.1, h.2.2.2.2.2.2.2.2.2.2.2.2.2.2.2.2.2.2.2.2.2.2.2.2.2.2.1, h.2.2.2.2.2.2.2.2.2.2.2.2.2.2.2.2.2.2.2.2.2.2.2.2.2.2.2.1, h.2.2.2.2.2.2.2.2.2.2.2.2.2.2.2.2.2.2.2.2.2.2.2.2.2.2.2.2.1, trivial⟩)
           ·
            refine ao_ by_ rfl fun b10 => ?_
            refine e_ (w_ rfl (K_ (fun _ a b => ⟨Vw.sat.sub (a.perm (k_ (d_ i_) (k_ (d_ i_) (k_ (d_ i_) (k_ (d_ i_) (d_ i_)))))), b⟩) (U_ 5 rfl (by kernel_rfl) (aB_ (news := List.flatMap Pc.cells qs) eD_ hq1 rfl rfl hqs3 hqs1 (d_ (d_ (d_ (d_ (d_ Q_))))) (by rw [bg_ Pc.cells 10 Pc.cells_len]) (fun v _ h => by exact h.2.2.2.2.2.2.2.2.2.2.2.2.2.2.2.2.2.2.2.2.2.2.1) (fun u hu => aG_ Pc.cells_one hu) (by simp only [maxLen]; (first | omega | ((try simp only [List.length_append, List.length_cons, List.length_nil]); omega))) (by (first | omega | ((try simp only [List.length_append, List.length_cons, List.length_nil]); omega))) rfl fun sv3 Hr3 hr3 => ?_))))
            refine ak_ List.perm_append_comm ?_
            have hq3 : aO_ 47 10 sv3 (List.length ((([] : List Pc) ++ p) ++ qs)) (List.flatMap Pc.cells ((([] : List Pc) ++ p) ++ qs)) Hr3 := by rw [List.length_append, List.flatMap_append]; exact hr3
            refine e_ (w_ rfl (K_ (fun _ a b => ⟨Vw.sat.sub (a.perm (k_ (d_ i_) (k_ (d_ i_) (k_ (d_ i_) (k_ (d_ i_) (d_ i_)))))), b⟩) (U_ 6 rfl (by kernel_rfl) (bi_ hq3 (d_ (d_ (d_ (d_ (d_ Q_))))) fun tad tcp htad hctad hmtad hztad => ?_))))
            subst htad
            refine W_ (gP_ w ((([] : List Pc) ++ p) ++ qs) tad tcp 1073741824 hSm hSk.al hSk.az (by omega) (by omega) (fun y hy => by simp only [List.nil_append, List.mem_append] at hy; rcases hy with hy | hy; exact hp6 y hy; exact hqs6 y hy) hctad hztad (by simp only [List.length_append, List.length_nil]; omega)) rfl I_ (fun v _ h => by exact ⟨h.2.2.2.2.2.2.2.2.2.2.2.2.2.2.2.2.2.1, h.2.2.2.2.2.2.2.2.2.2.2.2.2.2.2.2.2.2.1, h.2.2.2.2.2.2.2.2.2.2.2.2.2.2.2.2.2.2.2.1, h.1, h.2.2.2.2.2.2.2.2.2.2.2.2.2.2.2.2.2.2.2.2.2.2.2.2.1, trivial⟩) rfl fun ⟨⟨xc, n5, n5ad, n5cp, ek⟩, hc, hck⟩ => ?_
            dsimp only
            dsimp only at hc hck
            have hco := hc.ok
            rw [List.nil_append] at hc
            refine e_ (w_ rfl (K_ (fun _ a b => ⟨a.tail, b.2.2.2.2.2⟩) (ae_ 3 [7, 8, 9, 10] (by kernel_rfl) (fun _ a b => ⟨a.tail, b.2.2.2.2.2⟩) (n_ rfl (f_ rfl) rfl (n_ rfl (Y_ rfl rfl) rfl (n_ rfl (Y_ rfl rfl) rfl (n_ rfl (Y_ rfl rfl) rfl (ad_ (U_ 12 rfl (by kernel_rfl) ?_)))))))))
            refine S_ 0 ag_ rfl rfl rfl rfl rfl rfl (e_ (w_ rfl (K_ (fun _ a b => ⟨a.tail, b.2.2.2.2.2⟩) (ae_ 0 [13, 14] (by kernel_rfl) (fun _ a b => ⟨a.tail, b.2.2.2.2.2⟩) (n_ rfl (g_ rfl) rfl (n_ rfl (g_ rfl) rfl (ad_ (aa_ (by kernel_rfl) (bq_ rfl ?_)))))))))
            exact gp_ ⟨(b10, xc, n5, ek), hc⟩ ⟨rfl, rfl, rfl, rfl, rfl, rfl, rfl, trivial⟩ (k_ (d_ (d_ (d_ (d_ (d_ i_))))) (k_ (d_ (d_ (d_ (d_ i_)))) (k_ (d_ (d_ (d_ i_))) (k_ (d_ (d_ i_)) (k_ (d_ i_) i_))))) (fun v _ h => by exact ⟨h.2.1, h.2.2.1, h.1, h.2.2.2.2.2.1, h.2.2.2.2.2.2.1, h.2.2.2.2.2.2.2.1, h.2.2.2.2.2.2.2.2.1, h.2.2.2.2.2.2.2.2.2.1, h.2.2.2.2.2.2.2.2.2.2.1, h.2.2.2.2.2.2.2.2.2.2.2.1, h.2.2.2.2.2.2.2.2.2.2.2.2.1, h.2.2.2.2.2.2.2.2.2.2.2.2.2.1, h.2.2.2.2.2.2.2.2.2.2.2.2.2.2.1, h.2.2.2.2.2.2.2.2.2.2.2.2.2.2.2.1, h.2.2.2.2.2.2.2.2.2.2.2.2.2.2.2.2.1, h.2.2.2.2.2.2.2.2.2.2.2.2.2.2.2.2.2.1, h.2.2.2.2.2.2.2.2.2.2.2.2.2.2.2.2.2.2.1, h.2.2.2.2.2.2.2.2.2.2.2.2.2.2.2.2.2.2.2.1, h.2.2.2.2.2.2.2.2.2.2.2.2.2.2.2.2.2.2.2.2.1, h.2.2.2.2.2.2.2.2.2.2.2.2.2.2.2.2.2.2.2.2.2.1, h.2.2.2.2.2.2.2.2.2.2.2.2.2.2.2.2.2.2.2.2.2.2.1, h.2.2.2.2.2.2.2.2.2.2.2.2.2.2.2.2.2.2.2.2.2.2.2.1, h.2.2.2.2.2.2.2.2.2.2.2.2.2.2.2.2.2.2.2.2.2.2.2.2.1, h.2.2.2.2.2.2.2.2.2.2.2.2.2.2.2.2.2.2.2.2.2.2.2.2.2.1, h.2.2.2.2.2.2.2.2.2.2.2.2.2.2.2.2.2.2.2.2.2.2.2.2.2.2.1, h.2.2.2.2.2.2.2.2.2.2.2.2.2.2.2.2.2.2.2.2.2.2.2.2.2.2.2.1, h.2.2.2.2.2.2.2.2.2.2.2.2.2.2.2.2.2.2.2.2.2.2.2.2.2.2.2.2.1, trivial⟩)
          ·
           refine ao_ by_ rfl fun b11 => ?_
           refine e_ (w_ rfl (K_ (fun _ a b => ⟨Vw.sat.sub (a.perm (k_ (d_ (s_ i_)) (k_ (d_ (s_ i_)) (k_ (d_ (s_ i_)) (k_ (d_ (s_ i_)) (d_ bj_)))))), b⟩) (U_ 3 rfl (by kernel_rfl) (aB_ (news := List.flatMap Pc.cells p) eD_ (dw_ b7 47 10) rfl rfl hp3 hp1 (d_ A_) (by rw [bg_ Pc.cells 10 Pc.cells_len]) (fun v _ h => by exact h.2.2.2.2.2.2.2.2.2.2.2.2.2.2.2.2.2.2.2.2.2.1) (fun u hu => aG_ Pc.cells_one hu) (by simp only [maxLen]; (first | omega | ((try simp only [List.length_append, List.length_cons, List.length_nil]); omega))) (by (first | omega | ((try simp only [List.length_append, List.length_cons, List.length_nil]); omega))) rfl fun sv4 Hr4 hr4 => ?_))))
           refine ak_ List.perm_append_comm ?_
           have hq4 : aO_ 47 10 sv4 (List.length (([] : List Pc) ++ p)) (List.flatMap Pc.cells (([] : List Pc) ++ p)) Hr4 := by rw [List.length_append, List.flatMap_append]; exact hr4
           refine e_ (w_ rfl (K_ (fun _ a b => ⟨Vw.sat.sub (a.perm (k_ (d_ i_) (k_ (d_ i_) (k_ (d_ i_) (k_ (d_ i_) (d_ i_)))))), b⟩) (U_ 5 rfl (by kernel_rfl) (aB_ (news := List.flatMap Pc.cells qs) eD_ hq4 rfl rfl hqs3 hqs1 (d_ (d_ (d_ (d_ (d_ Q_))))) (by rw [bg_ Pc.cells 10 Pc.cells_len]) (fun v _ h => by exact h.2.2.2.2.2.2.2.2.2.2.2.2.2.2.2.2.2.2.2.2.2.2.1) (fun u hu => aG_ Pc.cells_one hu) (by simp only [maxLen]; (first | omega | ((try simp only [List.length_append, List.length_cons, List.length_nil]); omega))) (by (first | omega | ((try simp only [List.length_append, List.length_cons, List.length_nil]); omega))) rfl fun sv5 Hr5 hr5 => ?_))))
           refine ak_ List.perm_append_comm ?_
           have hq5 : aO_ 47 10 sv5 (List.length ((([] : List Pc) ++ p) ++ qs)) (List.flatMap Pc.cells ((([] : List Pc) ++ p) ++ qs)) Hr5 := by rw [List.length_append, List.flatMap_append]; exact hr5
           refine e_ (w_ rfl (K_ (fun _ a b => ⟨Vw.sat.sub (a.perm (k_ (d_ i_) (k_ (d_ i_) (k_ (d_ i_) (k_ (d_ i_) (d_ i_)))))), b⟩) (U_ 6 rfl (by kernel_rfl) (bi_ hq5 (d_ (d_ (d_ (d_ (d_ Q_))))) fun tad tcp htad hctad hmtad hztad => ?_))))
           subst htad
           refine W_ (gP_ w ((([] : List Pc) ++ p) ++ qs) tad tcp 1073741824 hSm hSk.al hSk.az (by omega) (by omega) (fun y hy => by simp only [List.nil_append, List.mem_append] at hy; rcases hy with hy | hy; exact hp6 y hy; exact hqs6 y hy) hctad hztad (by simp only [List.length_append, List.length_nil]; omega)) rfl I_ (fun v _ h => by exact ⟨h.2.2.2.2.2.2.2.2.2.2.2.2.2.2.2.2.2.1, h.2.2.2.2.2.2.2.2.2.2.2.2.2.2.2.2.2.2.1, h.2.2.2.2.2.2.2.2.2.2.2.2.2.2.2.2.2.2.2.1, h.1, h.2.2.2.2.2.2.2.2.2.2.2.2.2.2.2.2.2.2.2.2.2.2.2.2.1, trivial⟩) rfl fun ⟨⟨xc, n5, n5ad, n5cp, ek⟩, hc, hck⟩ => ?_
           dsimp only
           dsimp only at hc hck
           have hco := hc.ok
           rw [List.nil_append] at hc
           refine e_ (w_ rfl (K_ (fun _ a b => ⟨a.tail, b.2.2.2.2.2⟩) (ae_ 3 [7, 8, 9, 10] (by kernel_rfl) (fun _ a b => ⟨a.tail, b.2.2.2.2.2⟩) (n_ rfl (f_ rfl) rfl (n_ rfl (Y_ rfl rfl) rfl (n_ rfl (Y_ rfl rfl) rfl (n_ rfl (Y_ rfl rfl) rfl (ad_ (U_ 12 rfl (by kernel_rfl) ?_)))))))))
           refine S_ 0 ag_ rfl rfl rfl rfl rfl rfl (e_ (w_ rfl (K_ (fun _ a b => ⟨a.tail, b.2.2.2.2.2⟩) (ae_ 0 [13, 14] (by kernel_rfl) (fun _ a b => ⟨a.tail, b.2.2.2.2.2⟩) (n_ rfl (g_ rfl) rfl (n_ rfl (g_ rfl) rfl (ad_ (aa_ (by kernel_rfl) (bq_ rfl ?_)))))))))
           exact gp_ ⟨(b11, xc, n5, ek), hc⟩ ⟨rfl, rfl, rfl, rfl, rfl, rfl, rfl, trivial⟩ (k_ (d_ (d_ (d_ (d_ (d_ i_))))) (k_ (d_ (d_ (d_ (d_ i_)))) (k_ (d_ (d_ (d_ i_))) (k_ (d_ (d_ i_)) (k_ (d_ i_) i_))))) (fun v _ h => by exact ⟨h.2.1, h.2.2.1, h.1, h.2.2.2.2.2.1, h.2.2.2.2.2.2.1, h.2.2.2.2.2.2.2.1, h.2.2.2.2.2.2.2.2.1, h.2.2.2.2.2.2.2.2.2.1, h.2.2.2.2.2.2.2.2.2.2.1, h.2.2.2.2.2.2.2.2.2.2.2.1, h.2.2.2.2.2.2.2.2.2.2.2.2.1, h.2.2.2.2.2.2.2.2.2.2.2.2.2.1, h.2.2.2.2.2.2.2.2.2.2.2.2.2.2.1, h.2.2.2.2.2.2.2.2.2.2.2.2.2.2.2.1, h.2.2.2.2.2.2.2.2.2.2.2.2.2.2.2.2.1, h.2.2.2.2.2.2.2.2.2.2.2.2.2.2.2.2.2.1, h.2.2.2.2.2.2.2.2.2.2.2.2.2.2.2.2.2.2.1, h.2.2.2.2.2.2.2.2.2.2.2.2.2.2.2.2.2.2.2.1, h.2.2.2.2.2.2.2.2.2.2.2.2.2.2.2.2.2.2.2.2.1, h.2.2.2.2.2.2.2.2.2.2.2.2.2.2.2.2.2.2.2.2.2.1, h.2.2.2.2.2.2.2.2.2.2.2.2.2.2.2.2.2.2.2.2.2.2.1, h.2.2.2.2.2.2.2.2.2.2.2.2.2.2.2.2.2.2.2.2.2.2.2.1, h.2.2.2.2.2.2.2.2.2.2.2.2.2.2.2.2.2.2.2.2.2.2.2.2.1, h.2.2.2.2.2.2.2.2.2.2.2.2.2.2.2.2.2.2.2.2.2.2.2.2.2.1, h.2.2.2.2.2.2.2.2.2.2.2.2.2.2.2.2.2.2.2.2.2.2.2.2.2.2.1, h.2.2.2.2.2.2.2.2.2.2.2.2.2.2.2.2.2.2.2.2.2.2.2.2.2.2.2.1, h.2.2.2.2.2.2.2.2.2.2.2.2.2.2.2.2.2.2.2.2.2.2.2.2.2.2.2.2.1, trivial⟩)
         ·
          refine ao_ by_ rfl fun b12 => ?_
          refine e_ (w_ rfl (K_ (fun _ a b => ⟨a.tail, b⟩) (U_ 1 rfl (by kernel_rfl) (cJ_ G_ M_ rfl fun b13 => ?_))))
          refine ak_ i_ (e_ (w_ rfl (K_ (fun _ a b => ⟨Vw.sat.sub (a.perm (k_ (s_ (d_ i_)) (k_ (s_ (d_ i_)) (k_ (s_ (d_ i_)) (k_ (s_ (d_ i_)) (s_ (d_ i_))))))), b⟩) (U_ 3 rfl (by kernel_rfl) (aB_ (news := List.flatMap Pc.cells p) eD_ (dw_ b13 47 10) rfl rfl hp3 hp1 A_ (by rw [bg_ Pc.cells 10 Pc.cells_len]) (fun v _ h => by exact h.2.2.2.2.2.2.2.2.2.2.2.2.2.2.2.2.2.2.2.2.2.1) (fun u hu => aG_ Pc.cells_one hu) (by simp only [maxLen]; (first | omega | ((try simp only [List.length_append, List.length_cons, List.length_nil]); omega))) (by (first | omega | ((try simp only [List.length_append, List.length_cons, List.length_nil]); omega))) rfl fun sv6 Hr6 hr6 => ?_)))))
          refine ak_ List.perm_append_comm ?_
          have hq6 : aO_ 47 10 sv6 (List.length (([] : List Pc) ++ p)) (List.flatMap Pc.cells (([] : List Pc) ++ p)) Hr6 := by rw [List.length_append, List.flatMap_append]; exact hr6
          refine e_ (w_ rfl (K_ (fun _ a b => ⟨Vw.sat.sub (a.perm (k_ (d_ i_) (k_ (d_ i_) (k_ (d_ i_) (k_ (d_ i_) (d_ i_)))))), b⟩) (U_ 5 rfl (by kernel_rfl) (aB_ (news := List.flatMap Pc.cells qs) eD_ hq6 rfl rfl hqs3 hqs1 (d_ (d_ (d_ (d_ (d_ Q_))))) (by rw [bg_ Pc.cells 10 Pc.cells_len]) (fun v _ h => by exact h.2.2.2.2.2.2.2.2.2.2.2.2.2.2.2.2.2.2.2.2.2.2.1) (fun u hu => aG_ Pc.cells_one hu) (by simp only [maxLen]; (first | omega | ((try simp only [List.length_append, List.length_cons, List.length_nil]); omega))) (by (first | omega | ((try simp only [List.length_append, List.length_cons, List.length_nil]); omega))) rfl fun sv7 Hr7 hr7 => ?_))))
          refine ak_ List.perm_append_comm ?_
          have hq7 : aO_ 47 10 sv7 (List.length ((([] : List Pc) ++ p) ++ qs)) (List.flatMap Pc.cells ((([] : List Pc) ++ p) ++ qs)) Hr7 := by rw [List.length_append, List.flatMap_append]; exact hr7
          refine e_ (w_ rfl (K_ (fun _ a b => ⟨Vw.sat.sub (a.perm (k_ (d_ i_) (k_ (d_ i_) (k_ (d_ i_) (k_ (d_ i_) (d_ i_)))))), b⟩) (U_ 6 rfl (by kernel_rfl) (bi_ hq7 (d_ (d_ (d_ (d_ (d_ Q_))))) fun tad tcp htad hctad hmtad hztad => ?_))))
          subst htad
          refine W_ (gP_ w ((([] : List Pc) ++ p) ++ qs) tad tcp 1073741824 hSm hSk.al hSk.az (by omega) (by omega) (fun y hy => by simp only [List.nil_append, List.mem_append] at hy; rcases hy with hy | hy; exact hp6 y hy; exact hqs6 y hy) hctad hztad (by simp only [List.length_append, List.length_nil]; omega)) rfl I_ (fun v _ h => by exact ⟨h.2.2.2.2.2.2.2.2.2.2.2.2.2.2.2.2.2.1, h.2.2.2.2.2.2.2.2.2.2.2.2.2.2.2.2.2.2.1, h.2.2.2.2.2.2.2.2.2.2.2.2.2.2.2.2.2.2.2.1, h.1, h.2.2.2.2.2.2.2.2.2.2.2.2.2.2.2.2.2.2.2.2.2.2.2.2.1, trivial⟩) rfl fun ⟨⟨xc, n5, n5ad, n5cp, ek⟩, hc, hck⟩ => ?_
          dsimp only
          dsimp only at hc hck
          have hco := hc.ok
          rw [List.nil_append] at hc
          refine e_ (w_ rfl (K_ (fun _ a b => ⟨a.tail, b.2.2.2.2.2⟩) (ae_ 3 [7, 8, 9, 10] (by kernel_rfl) (fun _ a b => ⟨a.tail, b.2.2.2.2.2⟩) (n_ rfl (f_ rfl) rfl (n_ rfl (Y_ rfl rfl) rfl (n_ rfl (Y_ rfl rfl) rfl (n_ rfl (Y_ rfl rfl) rfl (ad_ (U_ 12 rfl (by kernel_rfl) ?_)))))))))
          refine S_ 0 ag_ rfl rfl rfl rfl rfl rfl (e_ (w_ rfl (K_ (fun _ a b => ⟨a.tail, b.2.2.2.2.2⟩) (ae_ 0 [13, 14] (by kernel_rfl) (fun _ a b => ⟨a.tail, b.2.2.2.2.2⟩) (n_ rfl (g_ rfl) rfl (n_ rfl (g_ rfl) rfl (ad_ (aa_ (by kernel_rfl) (bq_ rfl ?_)))))))))
          exact gp_ ⟨(b12, xc, n5, ek), hc⟩ ⟨rfl, rfl, rfl, rfl, rfl, rfl, rfl, trivial⟩ (k_ (d_ (d_ (d_ (d_ (d_ i_))))) (k_ (d_ (d_ (d_ (d_ i_)))) (k_ (d_ (d_ (d_ i_))) (k_ (d_ (d_ i_)) (k_ (d_ i_) i_))))) (fun v _ h => by exact ⟨h.2.1, h.2.2.1, h.1, h.2.2.2.2.2.1, h.2.2.2.2.2.2.1, h.2.2.2.2.2.2.2.1, h.2.2.2.2.2.2.2.2.1, h.2.2.2.2.2.2.2.2.2.1, h.2.2.2.2.2.2.2.2.2.2.1, h.2.2.2.2.2.2.2.2.2.2.2.1, h.2.2.2.2.2.2.2.2.2.2.2.2.1, h.2.2.2.2.2.2.2.2.2.2.2.2.2.1, h.2.2.2.2.2.2.2.2.2.2.2.2.2.2.1, h.2.2.2.2.2.2.2.2.2.2.2.2.2.2.2.1, h.2.2.2.2.2.2.2.2.2.2.2.2.2.2.2.2.1, h.2.2.2.2.2.2.2.2.2.2.2.2.2.2.2.2.2.1, h.2.2.2.2.2.2.2.2.2.2.2.2.2.2.2.2.2.2.1, h.2.2.2.2.2.2.2.2.2.2.2.2.2.2.2.2.2.2.2.1, h.2.2.2.2.2.2.2.2.2.2.2.2.2.2.2.2.2.2.2.2.1, h.2.2.2.2.2.2.2.2.2.2.2.2.2.2.2.2.2.2.2.2.2.1, h.2.2.2.2.2.2.2.2.2.2.2.2.2.2.2.2.2.2.2.2.2.2.1, h.2.2.2.2.2.2.2.2.2.2.2.2.2.2.2.2.2.2.2.2.2.2.2.1, h.2.2.2.2.2.2.2.2.2.2.2.2.2.2.2.2.2.2.2.2.2.2.2.2.1, h.2.2.2.2.2.2.2.2.2.2.2.2.2.2.2.2.2.2.2.2.2.2.2.2.2.1, h.2.2.2.2.2.2.2.2.2.2.2.2.2.2.2.2.2.2.2.2.2.2.2.2.2.2.1, h.2.2.2.2.2.2.2.2.2.2.2.2.2.2.2.2.2.2.2.2.2.2.2.2.2.2.2.1, h.2.2.2.2.2.2.2.2.2.2.2.2.2.2.2.2.2.2.2.2.2.2.2.2.2.2.2.2.1, trivial⟩)
        ·
         rintro ⟨⟨z14_11, xc, n5, ek⟩, hc⟩
         dsimp only at hc ⊢
         refine cY_ [(6, .bool false), (15, zp_ b5 0), (17, .int .i64 eh), (18, zp_ b6 0), (20, .int .i64 ei), (21, zp_ z14_11 0), (23, .int .i64 ek)] ⟨rfl, rfl, rfl, rfl, rfl, rfl, rfl, trivial⟩ ?_
         refine b_ rfl (h_ (h_ ?_))
         obtain ⟨hm1, hm2, hm3⟩ := nP_ hS hx hy ha hb hc (by omega)
         have hco := hc.ok
         rw [List.length_append] at hco
         refine c_ (a_ (f_ rfl) rfl (x_ (bL_ rfl rfl) rfl fun r4 hr4 => ?_))
         refine a_ (f_ rfl) rfl ?_
         cases r4
         ·
          replace hr4 := aX_ hr4
          refine p_ rfl rfl (a_ (f_ rfl) rfl (p_ rfl rfl (x_ (bL_ rfl rfl) rfl fun r5 hr5 => ?_)))
          refine a_ (C_ rfl rfl) rfl (a_ (f_ rfl) rfl ?_)
          cases r5
          ·
           replace hr5 := aX_ hr5
           refine p_ rfl rfl (a_ (f_ rfl) rfl (p_ rfl rfl (x_ (bL_ rfl rfl) rfl fun r6 hr6 => ?_)))
           refine a_ (C_ rfl rfl) rfl (e_ (b_ rfl ?_))
           cases r6
           ·
            replace hr6 := aX_ hr6
            refine v_ rfl (z_ (b_ rfl (h_ ?_)))
            obtain ⟨⟨hs1, hs2⟩, hs3, hs4, hs5⟩ := hm3 (by assumption)
            refine c_ (a_ (m_ aS_ rfl rfl rfl ac_) rfl (a_ (X_ 3 aV_ ac_ rfl rfl rfl) rfl (a_ (m_ aS_ rfl rfl rfl ac_) rfl (a_ (X_ 4 aV_ ac_ rfl rfl rfl) rfl (au_ (mJ_ (Wk.cl xa) (Wk.cl xb) (by omega) (by omega) (by omega) (by omega)) rfl I_ (fun v _ h => by exact ⟨h.2.2.2.2.2.2.2.2.1, h.2.2.2.2.2.2.2.2.2.1, h.2.2.2.2.1, h.2.2.2.2.2.1, trivial⟩) rfl fun r7 hr7 => ?_)))))
            refine a_ (f_ rfl) rfl ?_
            cases r7
            ·
             simp at hr7
             simp [hs1, hs2] at hr7
            ·
             simp at hr7
             refine p_ rfl rfl (a_ (X_ 3 bf_ ag_ rfl rfl rfl) rfl (p_ rfl rfl (a_ (X_ 5 bf_ ag_ rfl rfl rfl) rfl (p_ rfl rfl (au_ (nm_ xa xc (by omega) (by omega) (by omega) (by omega) (by omega) (by omega)) rfl I_ (fun v _ h => by exact ⟨h.2.2.2.2.2.2.2.1, h.2.2.2.2.2.2.2.2.1, h.2.2.2.2.2.2.2.2.2.1, h.2.2.1, h.1, h.2.1, trivial⟩) rfl fun r8 hr8 => ?_)))))
             refine a_ (F_ rfl rfl) rfl (a_ (g_ rfl) rfl (e_ (b_ rfl (E_ ?_))))
             exact ar_ dA_ () (y_ rfl (by rw [← hr8]; first | exact beq_iff_eq.2 hm2 | simp [hs3, hs4, hs5])) I_ (fun _ _ _ => trivial)
           ·
            replace hr6 := aW_ hr6
            refine t_ rfl (h_ (c_ (a_ (f_ rfl) rfl (a_ (f_ rfl) rfl (x_ (aE_ rfl rfl) rfl fun r9 hr9 => ?_)))))
            refine a_ (f_ rfl) rfl ?_
            cases r9
            ·
             replace hr9 := ne_of_beq_false hr9
             exact absurd hm1 hr9
            ·
             replace hr9 := eq_of_beq hr9
             refine p_ rfl rfl (a_ (f_ rfl) rfl (p_ rfl rfl (a_ (f_ rfl) rfl (p_ rfl rfl (x_ (aE_ rfl rfl) rfl fun r10 hr10 => ?_)))))
             refine a_ (F_ rfl rfl) rfl (a_ (g_ rfl) rfl (e_ (b_ rfl (E_ ?_))))
             exact ar_ dA_ () (y_ rfl (by rw [← hr10]; first | exact beq_iff_eq.2 hm2 | simp [hs3, hs4, hs5])) I_ (fun _ _ _ => trivial)
          ·
           replace hr5 := aW_ hr5
           refine r_ rfl rfl rfl rfl (r_ rfl rfl rfl rfl (a_ (F_ rfl rfl) rfl (e_ (b_ rfl (t_ rfl (h_ (c_ (a_ (f_ rfl) rfl (a_ (f_ rfl) rfl ?_)))))))))
           refine x_ (aE_ rfl rfl) rfl fun r11 hr11 => ?_
           refine a_ (f_ rfl) rfl ?_
           cases r11
           ·
            replace hr11 := ne_of_beq_false hr11
            exact absurd hm1 hr11
           ·
            replace hr11 := eq_of_beq hr11
            refine p_ rfl rfl (a_ (f_ rfl) rfl (p_ rfl rfl (a_ (f_ rfl) rfl (p_ rfl rfl (x_ (aE_ rfl rfl) rfl fun r12 hr12 => ?_)))))
            refine a_ (F_ rfl rfl) rfl (a_ (g_ rfl) rfl (e_ (b_ rfl (E_ ?_))))
            exact ar_ dA_ () (y_ rfl (by rw [← hr12]; first | exact beq_iff_eq.2 hm2 | simp [hs3, hs4, hs5])) I_ (fun _ _ _ => trivial)
         ·
          replace hr4 := aW_ hr4
          refine r_ rfl rfl rfl rfl (r_ rfl rfl rfl rfl (a_ (F_ rfl rfl) rfl (a_ (f_ rfl) rfl (r_ rfl rfl rfl rfl (r_ rfl rfl rfl rfl (a_ (F_ rfl rfl) rfl (e_ (b_ rfl (t_ rfl ?_)))))))))
          refine h_ (c_ (a_ (f_ rfl) rfl (a_ (f_ rfl) rfl (x_ (aE_ rfl rfl) rfl fun r13 hr13 => ?_))))
          refine a_ (f_ rfl) rfl ?_
          cases r13
          ·
           replace hr13 := ne_of_beq_false hr13
           exact absurd hm1 hr13
          ·
           replace hr13 := eq_of_beq hr13
           refine p_ rfl rfl (a_ (f_ rfl) rfl (p_ rfl rfl (a_ (f_ rfl) rfl (p_ rfl rfl (x_ (aE_ rfl rfl) rfl fun r14 hr14 => ?_)))))
           refine a_ (F_ rfl rfl) rfl (a_ (g_ rfl) rfl (e_ (b_ rfl (E_ ?_))))
           exact ar_ dA_ () (y_ rfl (by rw [← hr14]; first | exact beq_iff_eq.2 hm2 | simp [hs3, hs4, hs5])) I_ (fun _ _ _ => trivial)
       ·
        replace hr3 := aW_ hr3
        refine t_ rfl (h_ (c_ (a_ (g_ rfl) rfl (e_ (b_ rfl (E_ ?_))))))
        exact ar_ dA_ () rfl I_ (fun _ _ _ => trivial)
      ·
       replace hr2 := aW_ hr2
       refine r_ rfl rfl rfl rfl (r_ rfl rfl rfl rfl (a_ (F_ rfl rfl) rfl (e_ (b_ rfl (t_ rfl (h_ (c_ (a_ (g_ rfl) rfl (e_ ?_)))))))))
       refine b_ rfl (E_ ?_)
       exact ar_ dA_ () rfl I_ (fun _ _ _ => trivial)
     ·
      replace hr1 := aW_ hr1
      refine t_ rfl (h_ (c_ (a_ (g_ rfl) rfl (e_ (b_ rfl (E_ ?_))))))
      exact ar_ dA_ () rfl I_ (fun _ _ _ => trivial)
end Go.Proofs.YtpdbbglpbngeiaaGreatDoor
namespace Go.Proofs.YtpdbbglpbngeiaaGreatDoor
open Go Go.Sx Go.Proofs
attribute [local irreducible] Code.wp wpList wpAnyH
open Go.Vs Go.ChangeShapes Go.WideShapes Go.ChangeAt Go.RowKit
structure Tys3 (P : Program) (tI tU tPs tK tW tH tHs tIs : TypeId) : Prop where
  u : P.underlying tU = some (.int .u32)
  w : ∃ fs, P.underlying tW = some (.struct fs) ∧ fs.toList.map (fun f => (f.type, f.offset)) = [(tPs, 0), (tK, 1)]
  h : ∃ fs, P.underlying tH = some (.struct fs) ∧ fs.toList.map (fun f => (f.type, f.offset)) = [(tPs, 0), (tU, 1)]
  hs : P.underlying tHs = some (.slice tH)
  is : P.underlying tIs = some (.slice tI)
  cu : P.cellsOf tU = 1
  cps : P.cellsOf tPs = 1
  cw : P.cellsOf tW = 3
  ch : P.cellsOf tH = 2
  bh : P.bytesOf tH = 32
  bi : P.bytesOf tI = 8
theorem om_ {H : Type} {enc : TypeId × Value → H} {P : Program} {W : World} {ts te : TypeId} (hs : P.underlying ts = some (.slice te)) {n : Nat} {ad : Option Addr} {len cap : Nat} {x : DataW H × List MemPlace} (h : DataW.trod enc P W 0 (fun _ => true) true n ts [.slice ad len cap] = some x) : ad = none → cap = 0 := by
  intro e
  subst e
  rcases DataW.trod_slice hs h with ⟨h0, _⟩ | ⟨a, l, c, elems, rest, m, hn, h0, _⟩
  · cases h0; rfl
  · cases h0
section
variable {H : Type} {enc : TypeId × Value → H} {P : Program} {W : World} {tI tB tS tSs tC tCs tA tAs tP tPs tF tFs tK tU tW tH tHs tIs : TypeId} (X : Tys P tI tB tS tSs tC tCs tA tAs tP tPs) (Z : Tys2 P tI tS tSs tF tFs tK) (Y : Tys3 P tI tU tPs tK tW tH tHs tIs) {base : Nat} {v : Value} {d : DataW H} {ps : List MemPlace}
include X Y
end
section
variable {H : Type} {enc : TypeId × Value → H} {P : Program} {W : World} {tI tB tS tSs tC tCs tA tAs tP tPs tF tFs tK tU tW tH tHs tIs : TypeId} (X : Tys P tI tB tS tSs tC tCs tA tAs tP tPs) (Z : Tys2 P tI tS tSs tF tFs tK) (Y : Tys3 P tI tU tPs tK tW tH tHs tIs) {base : Nat} {v : Value} {d : DataW H} {ps : List MemPlace}
include X Z Y
end
section
variable {H : Type} {enc : TypeId × Value → H} {P : Program} {W : World} {tI tB tS tSs tC tCs tA tAs tP tPs tF tFs tK tU tW tH tHs tIs : TypeId} (X : Tys P tI tB tS tSs tC tCs tA tAs tP tPs) (Z : Tys2 P tI tS tSs tF tFs tK) (Y : Tys3 P tI tU tPs tK tW tH tHs tIs) {base : Nat} {v : Value} {d : DataW H} {ps : List MemPlace}
include X
theorem kK_ (hval : Value.okWide P W .any base tPs v) (h : DataW.Trod enc P W 0 (fun _ => true) true tPs v d ps) (hw : wok (d.weights P tPs)) :
    ∃ (l : List Pc) (ad : Option Addr) (cap : Nat), v = .slice ad l.length cap ∧ bv_ (vw W) ad (l.flatMap Pc.cells) ∧ (∀ y ∈ l, y.big) ∧ l.length ≤ cap ∧ cap ≤ 1099511627744 ∧ (ad = none → cap = 0) := by
  obtain ⟨a, len, cap, rfl⟩ := okWide_slice X.ps hval
  obtain ⟨n, hn⟩ := h
  obtain ⟨l, ad, cap', e, h1, h2, h3, h4⟩ := pcs_of X hn hw
  have z := om_ X.ps (e ▸ hn)
  simp only [Value.cells, List.cons.injEq, and_true] at e
  exact ⟨l, ad, cap', e, h1, h2, h3, h4, z⟩
end
end Go.Proofs.YtpdbbglpbngeiaaGreatDoor
